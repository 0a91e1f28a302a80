-- Written by a program of this session (wip/gen.py) over the kit's print: each Go function as a plain Lean function, and the proof that the Go code comes to it. Nothing here is trusted: Lean checks it.
import Derived.Test.YtolmcdglemkchaaDoorPx0
import Derived.Test.YtolmcdglemkchaaDoorPx1
import Derived.Test.YtolmcdglemkchaaDoorPx2
namespace Go.Proofs.YtolmcdglemkchaaDoor.P
open Go.RowKit Go.Proofs.YtolmcdglemkchaaDoorW.PrintWords Go.Proofs.YtolmcdglemkchaaDoorW.PrintLast Go.Proofs.YtolmcdglemkchaaDoorW.PrintMore
attribute [local go_sem] str_gtr str_leq str_geq max2_int min2_int max_two min_two max_three min_three max_four min_four   -- for this text's walks alone
set_option linter.unusedVariables false
set_option linter.unusedSimpArgs false

attribute [local go_sem high] eqA23
/-! ### filetype_Follow: function 21 -/
mutual
def filetype_Follow.l0 : Nat → List ByteArray → List ByteArray → Int → Int → Option (ByteArray × Int)
  | 0, _, _, _, _ => none
  | k + 1, x6, x35, x36, x37 => if x37 < x36 then (if 0 ≤ x37 then (if x37 < (x35.length : Int) then (if (rdOf ByteArray.empty x35 x37).toList = ([46] : List UInt8) then (filetype_Follow.j1 k x6 (rdOf ByteArray.empty x35 x37) x35 x36 x37 true) else (filetype_Follow.j1 k x6 (rdOf ByteArray.empty x35 x37) x35 x36 x37 ((rdOf ByteArray.empty x35 x37).toList == ([] : List UInt8)))) else (none)) else (none)) else ((path_Join.f k x6).bind fun bt143 => (if bt143.2 = 0 then (some (bt143.1, 0)) else (some ((⟨#[]⟩ : ByteArray), 92))))
def filetype_Follow.j1 : Nat → List ByteArray → ByteArray → List ByteArray → Int → Int → Bool → Option (ByteArray × Int)
  | 0, _, _, _, _, _, _ => none
  | k + 1, x6, x9, x35, x36, x37, x41 => if x41 = true then (filetype_Follow.l0 k x6 x35 x36 (wrap64 (x37 + 1))) else (if x9.toList = ([46, 46] : List UInt8) then (if (x6.length : Int) = 1 then (some ((⟨#[]⟩ : ByteArray), 92)) else (if 0 ≤ (wrap64 ((x6.length : Int) - 1)) then (if (wrap64 ((x6.length : Int) - 1)) ≤ (x6.length : Int) then (filetype_Follow.l0 k (x6.take ((wrap64 ((x6.length : Int) - 1)) : Int).toNat) x35 x36 (wrap64 (x37 + 1))) else (none)) else (none))) else ((path_Component.f k x9).bind fun t149 => (if t149 = true then (if x6.length < 8796093022208 then (filetype_Follow.l0 k (x6 ++ [x9]) x35 x36 (wrap64 (x37 + 1))) else (none)) else (some ((⟨#[]⟩ : ByteArray), 92)))))
end
def filetype_Follow.f (k : Nat) (a0 : ByteArray) (a1 : ByteArray) : Option (ByteArray × Int) := (path_Split.f k a0).bind fun bt132 => (if bt132.2 = 0 then ((filetype_linkS.f a1).bind fun t136 => (if t136 = true then (if 0 < (a1.size : Int) then (if (bt a1 0) = 47 then (some ((⟨#[]⟩ : ByteArray), 92)) else (if 0 ≤ (wrap64 ((bt132.1.length : Int) - 1)) then (if (wrap64 ((bt132.1.length : Int) - 1)) ≤ (bt132.1.length : Int) then ((strings_Split.f a1 (⟨#[47]⟩ : ByteArray)).bind fun t140 => (filetype_Follow.l0 k (bt132.1.take ((wrap64 ((bt132.1.length : Int) - 1)) : Int).toNat) t140 (t140.length : Int) 0)) else (none)) else (none))) else (none)) else (some ((⟨#[]⟩ : ByteArray), 91)))) else (some ((⟨#[]⟩ : ByteArray), bt132.2)))
theorem filetype_Follow.mono_l : ∀ k, (∀ y0 y1 y2 y3, LeO (filetype_Follow.l0 k y0 y1 y2 y3) (filetype_Follow.l0 (k + 1) y0 y1 y2 y3)) ∧ (∀ y0 y1 y2 y3 y4 y5, LeO (filetype_Follow.j1 k y0 y1 y2 y3 y4 y5) (filetype_Follow.j1 (k + 1) y0 y1 y2 y3 y4 y5))
  | 0 => ⟨fun _ _ _ _ r h => by simp [filetype_Follow.l0] at h, fun _ _ _ _ _ _ r h => by simp [filetype_Follow.j1] at h⟩
  | k + 1 => by
    obtain ⟨ih0, ih1⟩ := filetype_Follow.mono_l k
    refine ⟨?_, ?_⟩
    · intro y0 y1 y2 y3
      unfold filetype_Follow.l0
      repeat' first
      | (with_reducible exact ih0 _ _ _ _)
      | (with_reducible exact ih1 _ _ _ _ _ _)
      | (with_reducible exact path_Component.mono _ _)
      | (with_reducible exact path_Join.mono _ _)
      | (with_reducible exact path_Split.mono _ _)
      | (with_reducible exact LeO.refl _)
      | (with_reducible exact LeO.none _)
      | (with_reducible refine LeO.ite ?_ ?_)
      | (with_reducible refine LeO.bind ?_ (fun _ => ?_))
      | exact ih0 _ _ _ _
      | exact ih1 _ _ _ _ _ _
      | exact path_Component.mono _ _
      | exact path_Join.mono _ _
      | exact path_Split.mono _ _
      | exact LeO.none _
      | refine LeO.ite ?_ ?_
      | refine LeO.bind ?_ (fun _ => ?_)
    · intro y0 y1 y2 y3 y4 y5
      unfold filetype_Follow.j1
      repeat' first
      | (with_reducible exact ih0 _ _ _ _)
      | (with_reducible exact ih1 _ _ _ _ _ _)
      | (with_reducible exact path_Component.mono _ _)
      | (with_reducible exact path_Join.mono _ _)
      | (with_reducible exact path_Split.mono _ _)
      | (with_reducible exact LeO.refl _)
      | (with_reducible exact LeO.none _)
      | (with_reducible refine LeO.ite ?_ ?_)
      | (with_reducible refine LeO.bind ?_ (fun _ => ?_))
      | exact ih0 _ _ _ _
      | exact ih1 _ _ _ _ _ _
      | exact path_Component.mono _ _
      | exact path_Join.mono _ _
      | exact path_Split.mono _ _
      | exact LeO.none _
      | refine LeO.ite ?_ ?_
      | refine LeO.bind ?_ (fun _ => ?_)
theorem filetype_Follow.mono : ∀ a0 a1 k, LeO (filetype_Follow.f k a0 a1) (filetype_Follow.f (k + 1) a0 a1) := by
  intro a0 a1 k
  obtain ⟨ih0, ih1⟩ := filetype_Follow.mono_l k
  unfold filetype_Follow.f
  repeat' first
      | (with_reducible exact ih0 _ _ _ _)
      | (with_reducible exact ih1 _ _ _ _ _ _)
      | (with_reducible exact path_Component.mono _ _)
      | (with_reducible exact path_Join.mono _ _)
      | (with_reducible exact path_Split.mono _ _)
      | (with_reducible exact LeO.refl _)
      | (with_reducible exact LeO.none _)
      | (with_reducible refine LeO.ite ?_ ?_)
      | (with_reducible refine LeO.bind ?_ (fun _ => ?_))
      | exact ih0 _ _ _ _
      | exact ih1 _ _ _ _ _ _
      | exact path_Component.mono _ _
      | exact path_Join.mono _ _
      | exact path_Split.mono _ _
      | exact LeO.none _
      | refine LeO.ite ?_ ?_
      | refine LeO.bind ?_ (fun _ => ?_)
set_option maxHeartbeats 8000000 in
set_option maxRecDepth 100000 in
theorem filetype_Follow.calls (k : Nat) (a0 : ByteArray) (a1 : ByteArray) (r1 : ByteArray) (r2 : Int) (w : World) (h : filetype_Follow.f k a0 a1 = some (r1, r2)) :
    Calls Tryd.prog 21 #[.string a0, .string a1] w fun e w' => e = .returned (.tuple #[.string r1, .int .i64 r2]) ∧ Below w.heap.size w w' := by
  have HB := Aside0.mk (Below.refl w.heap.size w)
  have H : ((path_Split.f k a0).bind fun bt132 => (if bt132.2 = 0 then ((filetype_linkS.f a1).bind fun t136 => (if t136 = true then (if 0 < (a1.size : Int) then (if (bt a1 0) = 47 then (some ((⟨#[]⟩ : ByteArray), 92)) else (if 0 ≤ (wrap64 ((bt132.1.length : Int) - 1)) then (if (wrap64 ((bt132.1.length : Int) - 1)) ≤ (bt132.1.length : Int) then ((strings_Split.f a1 (⟨#[47]⟩ : ByteArray)).bind fun t140 => (filetype_Follow.l0 k (bt132.1.take ((wrap64 ((bt132.1.length : Int) - 1)) : Int).toNat) t140 (t140.length : Int) 0)) else (none)) else (none))) else (none)) else (some ((⟨#[]⟩ : ByteArray), 91)))) else (some ((⟨#[]⟩ : ByteArray), bt132.2)))) = some (r1, r2) := h
  clear h
  replace H := Option.bind_eq_some_iff.mp H
  obtain ⟨⟨t132, t133⟩, A30, H⟩ := H
  replace H : (if t133 = 0 then ((filetype_linkS.f a1).bind fun t136 => (if t136 = true then (if 0 < (a1.size : Int) then (if (bt a1 0) = 47 then (some ((⟨#[]⟩ : ByteArray), 92)) else (if 0 ≤ (wrap64 ((t132.length : Int) - 1)) then (if (wrap64 ((t132.length : Int) - 1)) ≤ (t132.length : Int) then ((strings_Split.f a1 (⟨#[47]⟩ : ByteArray)).bind fun t140 => (filetype_Follow.l0 k (t132.take ((wrap64 ((t132.length : Int) - 1)) : Int).toNat) t140 (t140.length : Int) 0)) else (none)) else (none))) else (none)) else (some ((⟨#[]⟩ : ByteArray), 91)))) else (some ((⟨#[]⟩ : ByteArray), t133))) = some (r1, r2) := H
  have A3 := Aside0.mk A30
  clear A30
  by_cases c4 : t133 = 0
  · rw [if_pos c4] at H
    have c4b0 : (t133 == 0) = true := beq_iff_eq.mpr c4
    have c4b1 : (t133 != 0) = false := bne_eq_false_iff_eq.mpr c4
    clear c4
    replace H := Option.bind_eq_some_iff.mp H
    obtain ⟨t136, A50, H⟩ := H
    replace H : (if t136 = true then (if 0 < (a1.size : Int) then (if (bt a1 0) = 47 then (some ((⟨#[]⟩ : ByteArray), 92)) else (if 0 ≤ (wrap64 ((t132.length : Int) - 1)) then (if (wrap64 ((t132.length : Int) - 1)) ≤ (t132.length : Int) then ((strings_Split.f a1 (⟨#[47]⟩ : ByteArray)).bind fun t140 => (filetype_Follow.l0 k (t132.take ((wrap64 ((t132.length : Int) - 1)) : Int).toNat) t140 (t140.length : Int) 0)) else (none)) else (none))) else (none)) else (some ((⟨#[]⟩ : ByteArray), 91))) = some (r1, r2) := H
    have A5 := Aside0.mk A50
    clear A50
    by_cases c6 : t136 = true
    · subst c6
      have H1 : (if 0 < (a1.size : Int) then (if (bt a1 0) = 47 then (some ((⟨#[]⟩ : ByteArray), 92)) else (if 0 ≤ (wrap64 ((t132.length : Int) - 1)) then (if (wrap64 ((t132.length : Int) - 1)) ≤ (t132.length : Int) then ((strings_Split.f a1 (⟨#[47]⟩ : ByteArray)).bind fun t140 => (filetype_Follow.l0 k (t132.take ((wrap64 ((t132.length : Int) - 1)) : Int).toNat) t140 (t140.length : Int) 0)) else (none)) else (none))) else (none)) = some (r1, r2) := by rw [if_pos rfl] at H; exact H
      clear H
      have H := H1
      clear H1
      by_cases c7 : 0 < (a1.size : Int)
      · rw [if_pos c7] at H
        have c7b0 : decide (0 < (a1.size : Int)) = true := decide_eq_true c7
        have c7b1 : decide (0 < a1.size) = true := decide_eq_true (by omega)
        clear c7
        by_cases c9 : (bt a1 0) = 47
        · rw [if_pos c9] at H
          have c9b0 : ((bt a1 0) == 47) = true := beq_iff_eq.mpr c9
          have c9b1 : ((bt a1 0) != 47) = false := bne_eq_false_iff_eq.mpr c9
          clear c9
          simp only [Option.some.injEq, Prod.mk.injEq] at H
          obtain ⟨rfl, rfl⟩ := H
          go_enter Tryd.func21, Tryd.ntmps21
          go_wp2_with (first | ((with_reducible refine gate_callee (f := 22) rfl ?_); refine goesL_ (some 13) rfl rfl Tryd.func22 (by kernel_rfl) rfl #[.string a0] rfl (by (try simp only [List.map_toArray, List.map_cons, List.map_nil]); first | done | rfl | (simp only [List.length_drop, List.length_take]; rfl)) ?_; (with_reducible refine (path_Split.calls k a0 t132 t133 _ A3.out).mono ?_); rintro e w10 ⟨v134, rfl, ho0, hb⟩; refine ⟨_, rfl, ?_⟩; have n0_ := Aside0.mk (Kd.R_lower ho0 (below_size (by repeat (first | (with_reducible first | exact HB.out | apply below_alloc | apply pw_below_drewN | apply below_drew1) | exact HB.out)))); have n1_ := Aside0.mk (below_step (by repeat (first | (with_reducible first | exact HB.out | apply below_alloc | apply pw_below_drewN | apply below_drew1) | exact HB.out)) hb); clear HB; have HO135 := n0_; have HB := n1_; clear n0_ n1_; (try clear hb); (try clear hb2); (try clear hk); (try clear hi); (try clear ho0)) | (refine wpList_conv_at rfl 9 44 5 (.tmp 21) a1 rfl Tryd.underlying9 Tryd.underlying44 Tryd.underlying5 rfl (linkS_some A5.out).1 ?_; intro cvw cvA cvC cvb cvk cvc) | ((with_reducible refine gate_callee (f := 38) rfl ?_); refine goesL_ (some 23) rfl rfl Tryd.func38 (by kernel_rfl) rfl #[.slice cvA (bytesOf a1).length cvC] rfl (by (try simp only [List.map_toArray, List.map_cons, List.map_nil]); first | done | rfl | (simp only [List.length_drop, List.length_take]; rfl)) ?_; (with_reducible refine (linkS_step a1 true cvb cvk cvc A5.out).mono ?_); rintro e w11 ⟨rfl, hb⟩; refine ⟨_, rfl, ?_⟩; have n0_ := Aside0.mk (Kd.R_below (by (with_reducible repeat (first | apply Kd.R_alloc | apply Kd.R_drewN | apply Kd.R_drew)); exact HO135.out) hb); have n1_ := Aside0.mk (below_step (by repeat (first | (with_reducible first | exact HB.out | apply below_alloc | apply pw_below_drewN | apply below_drew1) | exact HB.out)) hb); clear HO135; clear HB; have HO135 := n0_; have HB := n1_; clear n0_ n1_; (try clear hb); (try clear hb2); (try clear hk); (try clear hi); have p8 : 0 ≤ (0 : Int) := (by omega); have q8 : 0 < a1.size := (by have : (0 : Int) < (a1.size : Int) := of_decide_eq_true (by first | (with_reducible assumption) | assumption); omega); have hx8 : ∀ h : 0 < a1.size, ((a1[0]'h).toNat : Int) = bt a1 0 := bt_at a1 0; clear p8; have qi8 : (0 < (a1.size : Int)) = True := eq_true (of_decide_eq_true (by first | (with_reducible assumption) | assumption)); replace q8 := eq_true q8))
          go_ret2
          exact ⟨by first | rfl | (simp [errW_none, errW_some] <;> rfl) | (simp [*, errW_none, errW_some] <;> rfl), by repeat (first | (with_reducible first | exact HB.out | apply below_alloc | apply pw_below_drewN | apply below_drew1) | exact HB.out)⟩
        · rw [if_neg c9] at H
          have c9b0 : ((bt a1 0) == 47) = false := beq_eq_false_iff_ne.mpr c9
          have c9b1 : ((bt a1 0) != 47) = true := bne_iff_ne.mpr c9
          obtain ⟨ji12, hji12⟩ : ∃ j_ : Int, (wrap64 ((t132.length : Int) - 1)) = j_ := ⟨_, rfl⟩
          replace H : (if 0 ≤ (ji12) then (if (ji12) ≤ (t132.length : Int) then ((strings_Split.f a1 (⟨#[47]⟩ : ByteArray)).bind fun t140 => (filetype_Follow.l0 k (t132.take ((ji12) : Int).toNat) t140 (t140.length : Int) 0)) else (none)) else (none)) = some (r1, r2) := by first | (rw [hji12] at H; exact H) | (simp only [hji12] at H ⊢; exact H)
          (try rw [hji12] at A3)
          (try rw [hji12] at A5)
          have hji12w : (IntKind.i64.wrap ((t132.length : Int) - 1)) = ji12 := (i64_w _).trans hji12
          by_cases c13 : 0 ≤ (ji12)
          · rw [if_pos c13] at H
            have c13b0 := eq_true c13
            have c13b1 : decide (0 ≤ (ji12)) = true := decide_eq_true c13
            clear c13
            by_cases c14 : (ji12) ≤ (t132.length : Int)
            · rw [if_pos c14] at H
              have c14b0 := eq_true c14
              have c14b1 : decide ((ji12) ≤ (t132.length : Int)) = true := decide_eq_true c14
              clear c14
              obtain ⟨y137, hy137⟩ : ∃ y_ : List ByteArray, y_ = (t132.take ((ji12) : Int).toNat) := ⟨_, rfl⟩
              replace H : ((strings_Split.f a1 (⟨#[47]⟩ : ByteArray)).bind fun t140 => (filetype_Follow.l0 k y137 t140 (t140.length : Int) 0)) = some (r1, r2) := by first | (rw [hy137]; with_reducible exact H) | (have H2_ := (Option.bind_some _ _).symm.trans H; rw [hy137]; with_reducible exact H2_) | (have H2_ := (Option.bind_some _ _).symm.trans H; with_reducible exact H2_) | with_reducible exact H | (rw [hy137]; exact H) | exact H
              have Ny137 := Aside0.mk hy137
              clear hy137
              replace H := Option.bind_eq_some_iff.mp H
              obtain ⟨t140, A150, H⟩ := H
              replace H : (filetype_Follow.l0 k y137 t140 (t140.length : Int) 0) = some (r1, r2) := H
              have A15 := Aside0.mk A150
              clear A150
              have H' := Aside0.mk H
              clear H
              go_enter Tryd.func21, Tryd.ntmps21
              go_wp2_with (first | ((with_reducible refine gate_callee (f := 22) rfl ?_); refine goesL_ (some 13) rfl rfl Tryd.func22 (by kernel_rfl) rfl #[.string a0] rfl (by (try simp only [List.map_toArray, List.map_cons, List.map_nil]); first | done | rfl | (simp only [List.length_drop, List.length_take]; rfl)) ?_; (with_reducible refine (path_Split.calls k a0 t132 t133 _ A3.out).mono ?_); rintro e w16 ⟨v134, rfl, ho0, hb⟩; refine ⟨_, rfl, ?_⟩; have n0_ := Aside0.mk (Kd.R_lower ho0 (below_size (by repeat (first | (with_reducible first | exact HB.out | apply below_alloc | apply pw_below_drewN | apply below_drew1) | exact HB.out)))); have n1_ := Aside0.mk (below_step (by repeat (first | (with_reducible first | exact HB.out | apply below_alloc | apply pw_below_drewN | apply below_drew1) | exact HB.out)) hb); clear HB; have HO135 := n0_; have HB := n1_; clear n0_ n1_; (try clear hb); (try clear hb2); (try clear hk); (try clear hi); (try clear ho0)) | (refine wpList_conv_at rfl 9 44 5 (.tmp 21) a1 rfl Tryd.underlying9 Tryd.underlying44 Tryd.underlying5 rfl (linkS_some A5.out).1 ?_; intro cvw cvA cvC cvb cvk cvc) | ((with_reducible refine gate_callee (f := 38) rfl ?_); refine goesL_ (some 23) rfl rfl Tryd.func38 (by kernel_rfl) rfl #[.slice cvA (bytesOf a1).length cvC] rfl (by (try simp only [List.map_toArray, List.map_cons, List.map_nil]); first | done | rfl | (simp only [List.length_drop, List.length_take]; rfl)) ?_; (with_reducible refine (linkS_step a1 true cvb cvk cvc A5.out).mono ?_); rintro e w17 ⟨rfl, hb⟩; refine ⟨_, rfl, ?_⟩; have n0_ := Aside0.mk (Kd.R_below (by (with_reducible repeat (first | apply Kd.R_alloc | apply Kd.R_drewN | apply Kd.R_drew)); exact HO135.out) hb); have n1_ := Aside0.mk (below_step (by repeat (first | (with_reducible first | exact HB.out | apply below_alloc | apply pw_below_drewN | apply below_drew1) | exact HB.out)) hb); clear HO135; clear HB; have HO135 := n0_; have HB := n1_; clear n0_ n1_; (try clear hb); (try clear hb2); (try clear hk); (try clear hi); have p8 : 0 ≤ (0 : Int) := (by omega); have q8 : 0 < a1.size := (by have : (0 : Int) < (a1.size : Int) := of_decide_eq_true (by first | (with_reducible assumption) | assumption); omega); have hx8 : ∀ h : 0 < a1.size, ((a1[0]'h).toNat : Int) = bt a1 0 := bt_at a1 0; clear p8; have qi8 : (0 < (a1.size : Int)) = True := eq_true (of_decide_eq_true (by first | (with_reducible assumption) | assumption)); replace q8 := eq_true q8; obtain ⟨Ao18, co18, eo18⟩ := Kd.R_slice HO135.out; subst eo18; have q19 : ((ji12) : Int) ≤ ((t132.length : Int) : Int) := of_decide_eq_true (by first | (with_reducible assumption) | assumption); obtain ⟨i019, hi019, _, hsz19, _⟩ := info_parts info9; have hcut19 := cut_to (P := Tryd.prog) 38 9 .i64 Tryd.underlying38 hi019 Ao18 t132.length co18 (ji12) (of_decide_eq_true (by first | (with_reducible assumption) | assumption)) q19 (Kd.R_reads' HO135.out).2.1; have hr19 := Kd.R_take (m := ((ji12) : Int).toNat) HO135.out (by omega); have hy19 : y137.length = ((ji12) : Int).toNat := (by rw [Ny137.out, List.length_take]; omega); rw [← Ny137.out] at hr19; rw [← hy19] at hr19 hcut19; clear hy19 hi019 hsz19 HO135; have HO139 := Aside0.mk hr19; clear hr19; replace q19 := eq_true q19) | ((with_reducible refine gate_callee (f := 39) rfl ?_); refine goesL_ (some 35) rfl rfl Tryd.func39 (by kernel_rfl) rfl #[.string a1, .string (⟨#[47]⟩ : ByteArray)] rfl (by (try simp only [List.map_toArray, List.map_cons, List.map_nil]); first | done | rfl | (simp only [List.length_drop, List.length_take]; rfl)) ?_; (with_reducible refine (strings_Split.calls a1 (⟨#[47]⟩ : ByteArray) t140 _ A15.out).mono ?_); rintro e w20 ⟨v141, rfl, ho0, hb⟩; refine ⟨_, rfl, ?_⟩; have n0_ := Aside0.mk (Kd.R_elder' (by (with_reducible repeat (first | apply Kd.R_alloc | apply Kd.R_drewN | apply Kd.R_drew)); exact HO139.out) (Kd.R_base ho0) hb); have n1_ := Aside0.mk (Kd.R_lower (Kd.R_new' ho0 (Kd.R_lt (by (with_reducible repeat (first | apply Kd.R_alloc | apply Kd.R_drewN | apply Kd.R_drew)); exact HO139.out))) (below_size (by repeat (first | (with_reducible first | exact HB.out | apply below_alloc | apply pw_below_drewN | apply below_drew1) | exact HB.out)))); have n2_ := Aside0.mk (below_step (by repeat (first | (with_reducible first | exact HB.out | apply below_alloc | apply pw_below_drewN | apply below_drew1) | exact HB.out)) hb); clear HO139; clear HB; have HO139 := n0_; have HO142 := n1_; have HB := n2_; clear n0_ n1_ n2_; (try clear hb); (try clear hb2); (try clear hk); (try clear hi); (try clear ho0); obtain ⟨Ao21, co21, eo21⟩ := Kd.R_slice HO142.out; subst eo21))
              go_loopg [6, 37] k (fun kq v6 v37 w' => ∃ (x6_1 : List ByteArray) (x37_1 : Int), v37 = .int .i64 x37_1 ∧ Aside0 (filetype_Follow.l0 kq x6_1 t140 (t140.length : Int) x37_1 = some (r1, r2)) ∧ Aside0 (kq ≤ k) ∧ Aside0 (Kd.R Kd.string 9 w' w.heap.size (fun k_ => some k_ ≠ ((.slice Ao21 t140.length co21) : Value).ownBlock) v6 x6_1) ∧ Aside0 (Kd.R Kd.string 9 w' w.heap.size (fun k_ => some k_ ≠ (v6 : Value).ownBlock) (.slice Ao21 t140.length co21) t140) ∧ Aside0 (Below w.heap.size w w'))
              case atStart => exact ⟨(y137), (0), (by first | rfl | (simp; done) | (simp [*]; done)), H', ⟨Nat.le_refl _⟩, ⟨by (with_reducible repeat (first | apply Kd.R_alloc | apply Kd.R_drewN | apply Kd.R_drew)); exact Kd.R_mono HO139.out (fun _ hk => hk.2)⟩, ⟨by (with_reducible repeat (first | apply Kd.R_alloc | apply Kd.R_drewN | apply Kd.R_drew)); exact Kd.R_mono HO142.out (fun _ hk => hk.2)⟩, ⟨by repeat (first | (with_reducible first | exact HB.out | apply below_alloc | apply pw_below_drewN | apply below_drew1) | exact HB.out)⟩⟩
              case round =>
                clear H'
                try clear c1
                try clear q1
                try clear c2
                try clear p2
                try clear c3
                try clear c4
                try clear c4b0
                try clear c4b1
                try clear c6
                try clear p6
                try clear c7
                try clear c7b0
                try clear c7b1
                try clear p8
                try clear q8
                try clear hx8
                try clear qi8
                try clear c9
                try clear c9b0
                try clear c9b1
                try clear c10
                try clear c13
                try clear c13b0
                try clear c13b1
                try clear c14
                try clear c14b0
                try clear c14b1
                try clear q19
                try clear c21
                try clear p8
                try clear q19
                try clear q8
                obtain ⟨x6_1, x37_1, rfl, HA, HK1, HO_6, HO_35, HB⟩ := hrel
                cases gk with
                | zero => exact absurd HA.out (by simp [filetype_Follow.l0])
                | succ k1 =>
                  have H := HA.out
                  clear HA
                  simp only [filetype_Follow.l0] at H
                  by_cases c22 : x37_1 < (t140.length : Int)
                  · rw [if_pos c22] at H
                    have c22b0 : decide (x37_1 < (t140.length : Int)) = true := decide_eq_true c22
                    clear c22
                    by_cases c23 : 0 ≤ x37_1
                    · rw [if_pos c23] at H
                      have c23b0 : decide (0 ≤ x37_1) = true := decide_eq_true c23
                      clear c23
                      by_cases c24 : x37_1 < (t140.length : Int)
                      · rw [if_pos c24] at H
                        have c24b0 : decide (x37_1 < (t140.length : Int)) = true := decide_eq_true c24
                        clear c24
                        have HC25 := Aside0.mk H
                        clear H
                        have p145 : 0 ≤ (x37_1 : Int) := of_decide_eq_true (by first | (with_reducible assumption) | assumption)
                        have q145 : x37_1 < (t140.length : Int) := of_decide_eq_true (by first | (with_reducible assumption) | assumption)
                        obtain ⟨ad145, e145, hx145_0⟩ := Kd.at_string (Kd.R_reads' HO_35.out).2.2 x37_1 p145 q145
                        cases e145
                        replace p145 := eq_true p145
                        replace q145 := eq_true q145
                        go_upto_region 13 with (fail)
                        go_cut [41] (fun v41 wc => ∃ (kq : Nat) (x41_24 : Bool), v41 = .bool x41_24 ∧ Aside0 (filetype_Follow.j1 kq x6_1 (rdOf ByteArray.empty t140 x37_1) t140 (t140.length : Int) x37_1 x41_24 = some (r1, r2)) ∧ Aside0 (kq ≤ k1) ∧ Aside0 (Kd.R Kd.string 9 wc w.heap.size (fun k_ => some k_ ≠ ((.slice (some ad145) t140.length co21) : Value).ownBlock) u6 x6_1) ∧ Aside0 (Kd.R Kd.string 9 wc w.heap.size (fun k_ => some k_ ≠ (u6 : Value).ownBlock) (.slice (some ad145) t140.length co21) t140) ∧ Aside0 (Below w.heap.size w wc))
                        case first =>
                          have H := HC25.out
                          clear HC25
                          by_cases c26 : (rdOf ByteArray.empty t140 x37_1).toList = ([46] : List UInt8)
                          · rw [if_pos c26] at H
                            have c26b0 : ((rdOf ByteArray.empty t140 x37_1).toList == ([46] : List UInt8)) = true := beq_iff_eq.mpr c26
                            have c26b1 : ((rdOf ByteArray.empty t140 x37_1).toList != ([46] : List UInt8)) = false := bne_eq_false_iff_eq.mpr c26
                            clear c26
                            (first | rw [c26b0] | (simp only [i64_w, i32_w]; rw [c26b0]) | skip)
                            have H' := Aside0.mk H
                            clear H
                            go_wp2
                            go_meet
                            case rel => exact ⟨_, (true), (by first | rfl | (simp; done) | (simp [*]; done)), H', ⟨by have := HK1.out; first | omega | exact Nat.le_refl _⟩, ⟨by (with_reducible repeat (first | apply Kd.R_alloc | apply Kd.R_drewN | apply Kd.R_drew)); exact HO_6.out⟩, ⟨by (with_reducible repeat (first | apply Kd.R_alloc | apply Kd.R_drewN | apply Kd.R_drew)); exact HO_35.out⟩, ⟨by repeat (first | (with_reducible first | exact HB.out | apply below_alloc | apply pw_below_drewN | apply below_drew1) | exact HB.out)⟩⟩
                          · rw [if_neg c26] at H
                            have c26b0 : ((rdOf ByteArray.empty t140 x37_1).toList == ([46] : List UInt8)) = false := beq_eq_false_iff_ne.mpr c26
                            have c26b1 : ((rdOf ByteArray.empty t140 x37_1).toList != ([46] : List UInt8)) = true := bne_iff_ne.mpr c26
                            (first | rw [c26b0] | (simp only [i64_w, i32_w]; rw [c26b0]) | skip)
                            have H' := Aside0.mk H
                            clear H
                            go_wp2
                            go_meet
                            case rel => exact ⟨_, (((rdOf ByteArray.empty t140 x37_1).toList == ([] : List UInt8))), (by first | rfl | (simp; done) | (simp [*]; done)), H', ⟨by have := HK1.out; first | omega | exact Nat.le_refl _⟩, ⟨by (with_reducible repeat (first | apply Kd.R_alloc | apply Kd.R_drewN | apply Kd.R_drew)); exact HO_6.out⟩, ⟨by (with_reducible repeat (first | apply Kd.R_alloc | apply Kd.R_drewN | apply Kd.R_drew)); exact HO_35.out⟩, ⟨by repeat (first | (with_reducible first | exact HB.out | apply below_alloc | apply pw_below_drewN | apply below_drew1) | exact HB.out)⟩⟩
                        case rest =>
                          clear HC25
                          try clear c1
                          try clear p1
                          try clear q1
                          try clear hx1
                          try clear c2
                          try clear p2
                          try clear c3
                          try clear c4
                          try clear c4b0
                          try clear c4b1
                          try clear c6
                          try clear p6
                          try clear c7
                          try clear c7b0
                          try clear c7b1
                          try clear p8
                          try clear q8
                          try clear hx8
                          try clear qi8
                          try clear c9
                          try clear c9b0
                          try clear c9b1
                          try clear c10
                          try clear c13
                          try clear c13b0
                          try clear c13b1
                          try clear c14
                          try clear c14b0
                          try clear c14b1
                          try clear p14
                          try clear q14
                          try clear hx14
                          try clear q19
                          try clear c21
                          try clear c22
                          try clear c22b0
                          try clear c23
                          try clear c23b0
                          try clear c24
                          try clear c24b0
                          try clear c26
                          try clear c26b0
                          try clear c26b1
                          try clear hx145_0
                          try clear p145
                          try clear p2
                          try clear p6
                          try clear p8
                          try clear q1
                          try clear q145
                          try clear q19
                          try clear q8
                          obtain ⟨kq, x41_24, rfl, HA, HJ24, HO_6, HO_35, HB⟩ := hcut
                          cases kq with
                          | zero => exact absurd HA.out (by simp [filetype_Follow.j1])
                          | succ kj24 =>
                            have H := HA.out
                            clear HA
                            simp only [filetype_Follow.j1] at H
                            by_cases c27 : x41_24 = true
                            · subst c27
                              have H1 : (filetype_Follow.l0 kj24 x6_1 t140 (t140.length : Int) (wrap64 (x37_1 + 1))) = some (r1, r2) := by rw [if_pos rfl] at H; exact H
                              clear H
                              have H := H1
                              clear H1
                              have H' := Aside0.mk H
                              clear H
                              go_wp2
                              go_roundg kj24
                              case measure => have := HK1.out; have := HJ24.out; omega
                              case rel => exact ⟨(x6_1), (wrap64 (x37_1 + 1)), (by first | rfl | (simp; done) | (simp [*]; done)), H', ⟨by have := HK1.out; have := HJ24.out; omega⟩, ⟨by (with_reducible repeat (first | apply Kd.R_alloc | apply Kd.R_drewN | apply Kd.R_drew)); exact HO_6.out⟩, ⟨by (with_reducible repeat (first | apply Kd.R_alloc | apply Kd.R_drewN | apply Kd.R_drew)); exact HO_35.out⟩, ⟨by repeat (first | (with_reducible first | exact HB.out | apply below_alloc | apply pw_below_drewN | apply below_drew1) | exact HB.out)⟩⟩
                            · replace c27 := Bool.eq_false_iff.mpr c27
                              subst c27
                              have H1 : (if (rdOf ByteArray.empty t140 x37_1).toList = ([46, 46] : List UInt8) then (if (x6_1.length : Int) = 1 then (some ((⟨#[]⟩ : ByteArray), 92)) else (if 0 ≤ (wrap64 ((x6_1.length : Int) - 1)) then (if (wrap64 ((x6_1.length : Int) - 1)) ≤ (x6_1.length : Int) then (filetype_Follow.l0 kj24 (x6_1.take ((wrap64 ((x6_1.length : Int) - 1)) : Int).toNat) t140 (t140.length : Int) (wrap64 (x37_1 + 1))) else (none)) else (none))) else ((path_Component.f kj24 (rdOf ByteArray.empty t140 x37_1)).bind fun t149 => (if t149 = true then (if x6_1.length < 8796093022208 then (filetype_Follow.l0 kj24 (x6_1 ++ [(rdOf ByteArray.empty t140 x37_1)]) t140 (t140.length : Int) (wrap64 (x37_1 + 1))) else (none)) else (some ((⟨#[]⟩ : ByteArray), 92))))) = some (r1, r2) := by rw [if_neg (show ¬ (false = true) by decide)] at H; exact H
                              clear H
                              have H := H1
                              clear H1
                              by_cases c28 : (rdOf ByteArray.empty t140 x37_1).toList = ([46, 46] : List UInt8)
                              · rw [if_pos c28] at H
                                have c28b0 : ((rdOf ByteArray.empty t140 x37_1).toList == ([46, 46] : List UInt8)) = true := beq_iff_eq.mpr c28
                                have c28b1 : ((rdOf ByteArray.empty t140 x37_1).toList != ([46, 46] : List UInt8)) = false := bne_eq_false_iff_eq.mpr c28
                                clear c28
                                by_cases c29 : (x6_1.length : Int) = 1
                                · rw [if_pos c29] at H
                                  have c29b0 : ((x6_1.length : Int) == 1) = true := beq_iff_eq.mpr c29
                                  have c29b1 : ((x6_1.length : Int) != 1) = false := bne_eq_false_iff_eq.mpr c29
                                  clear c29
                                  simp only [Option.some.injEq, Prod.mk.injEq] at H
                                  obtain ⟨rfl, rfl⟩ := H
                                  obtain ⟨Ao30, co30, eo30⟩ := Kd.R_slice HO_6.out
                                  subst eo30
                                  go_wp2
                                  go_ret2
                                  exact ⟨by first | rfl | (simp [errW_none, errW_some] <;> rfl) | (simp only [← hji12]; first | rfl | (simp [errW_none, errW_some] <;> rfl)) | (simp [*, errW_none, errW_some] <;> rfl), by repeat (first | (with_reducible first | exact HB.out | apply below_alloc | apply pw_below_drewN | apply below_drew1) | exact HB.out)⟩
                                · rw [if_neg c29] at H
                                  have c29b0 : ((x6_1.length : Int) == 1) = false := beq_eq_false_iff_ne.mpr c29
                                  have c29b1 : ((x6_1.length : Int) != 1) = true := bne_iff_ne.mpr c29
                                  obtain ⟨ji31, hji31⟩ : ∃ j_ : Int, (wrap64 ((x6_1.length : Int) - 1)) = j_ := ⟨_, rfl⟩
                                  replace H : (if 0 ≤ (ji31) then (if (ji31) ≤ (x6_1.length : Int) then (filetype_Follow.l0 kj24 (x6_1.take ((ji31) : Int).toNat) t140 (t140.length : Int) (wrap64 (x37_1 + 1))) else (none)) else (none)) = some (r1, r2) := by first | (rw [hji31] at H; exact H) | (simp only [hji31] at H ⊢; exact H)
                                  have hji31w : (IntKind.i64.wrap ((x6_1.length : Int) - 1)) = ji31 := (i64_w _).trans hji31
                                  by_cases c32 : 0 ≤ (ji31)
                                  · rw [if_pos c32] at H
                                    have c32b0 := eq_true c32
                                    have c32b1 : decide (0 ≤ (ji31)) = true := decide_eq_true c32
                                    clear c32
                                    by_cases c33 : (ji31) ≤ (x6_1.length : Int)
                                    · rw [if_pos c33] at H
                                      have c33b0 := eq_true c33
                                      have c33b1 : decide ((ji31) ≤ (x6_1.length : Int)) = true := decide_eq_true c33
                                      clear c33
                                      obtain ⟨y146, hy146⟩ : ∃ y_ : List ByteArray, y_ = (x6_1.take ((ji31) : Int).toNat) := ⟨_, rfl⟩
                                      replace H : (filetype_Follow.l0 kj24 y146 t140 (t140.length : Int) (wrap64 (x37_1 + 1))) = some (r1, r2) := by first | (rw [hy146]; with_reducible exact H) | (have H2_ := (Option.bind_some _ _).symm.trans H; rw [hy146]; with_reducible exact H2_) | (have H2_ := (Option.bind_some _ _).symm.trans H; with_reducible exact H2_) | with_reducible exact H | (rw [hy146]; exact H) | exact H
                                      have Ny146 := Aside0.mk hy146
                                      clear hy146
                                      have H' := Aside0.mk H
                                      clear H
                                      obtain ⟨Ao34, co34, eo34⟩ := Kd.R_slice HO_6.out
                                      subst eo34
                                      have q35 : ((ji31) : Int) ≤ ((x6_1.length : Int) : Int) := of_decide_eq_true (by first | (with_reducible assumption) | assumption)
                                      obtain ⟨i035, hi035, _, hsz35, _⟩ := info_parts info9
                                      have hcut35 := cut_to (P := Tryd.prog) 38 9 .i64 Tryd.underlying38 hi035 Ao34 x6_1.length co34 (ji31) (of_decide_eq_true (by first | (with_reducible assumption) | assumption)) q35 (Kd.R_reads' HO_6.out).2.1
                                      have hr35 := Kd.R_take (m := ((ji31) : Int).toNat) HO_6.out (by omega)
                                      have hy35 : y146.length = ((ji31) : Int).toNat := (by rw [Ny146.out, List.length_take]; omega)
                                      rw [← Ny146.out] at hr35
                                      rw [← hy35] at hr35 hcut35
                                      clear hy35 hi035 hsz35 HO_6
                                      have HO148 := Aside0.mk hr35
                                      clear hr35
                                      replace q35 := eq_true q35
                                      go_wp2
                                      go_roundg kj24
                                      case measure => have := HK1.out; have := HJ24.out; omega
                                      case rel => exact ⟨(y146), (wrap64 (x37_1 + 1)), (by first | rfl | (simp; done) | (simp [*]; done)), H', ⟨by have := HK1.out; have := HJ24.out; omega⟩, ⟨by (with_reducible repeat (first | apply Kd.R_alloc | apply Kd.R_drewN | apply Kd.R_drew)); exact HO148.out⟩, ⟨by (with_reducible repeat (first | apply Kd.R_alloc | apply Kd.R_drewN | apply Kd.R_drew)); first | exact HO_35.out | exact Kd.R_mono HO_35.out (fun k_ hk_ => by cases Ao34 <;> exact hk_)⟩, ⟨by repeat (first | (with_reducible first | exact HB.out | apply below_alloc | apply pw_below_drewN | apply below_drew1) | exact HB.out)⟩⟩
                                    · rw [if_neg c33] at H
                                      exact absurd H (by simp)
                                  · rw [if_neg c32] at H
                                    exact absurd H (by simp)
                              · rw [if_neg c28] at H
                                have c28b0 : ((rdOf ByteArray.empty t140 x37_1).toList == ([46, 46] : List UInt8)) = false := beq_eq_false_iff_ne.mpr c28
                                have c28b1 : ((rdOf ByteArray.empty t140 x37_1).toList != ([46, 46] : List UInt8)) = true := bne_iff_ne.mpr c28
                                replace H := Option.bind_eq_some_iff.mp H
                                obtain ⟨t149, A360, H⟩ := H
                                replace H : (if t149 = true then (if x6_1.length < 8796093022208 then (filetype_Follow.l0 kj24 (x6_1 ++ [(rdOf ByteArray.empty t140 x37_1)]) t140 (t140.length : Int) (wrap64 (x37_1 + 1))) else (none)) else (some ((⟨#[]⟩ : ByteArray), 92))) = some (r1, r2) := H
                                have A36 := Aside0.mk A360
                                clear A360
                                by_cases c37 : t149 = true
                                · subst c37
                                  have H1 : (if x6_1.length < 8796093022208 then (filetype_Follow.l0 kj24 (x6_1 ++ [(rdOf ByteArray.empty t140 x37_1)]) t140 (t140.length : Int) (wrap64 (x37_1 + 1))) else (none)) = some (r1, r2) := by rw [if_pos rfl] at H; exact H
                                  clear H
                                  have H := H1
                                  clear H1
                                  by_cases c38 : x6_1.length < 8796093022208
                                  · rw [if_pos c38] at H
                                    have LMc38 := Aside0.mk c38
                                    clear c38
                                    obtain ⟨y150, hy150⟩ : ∃ y_ : List ByteArray, y_ = (x6_1 ++ [(rdOf ByteArray.empty t140 x37_1)]) := ⟨_, rfl⟩
                                    replace H : (filetype_Follow.l0 kj24 y150 t140 (t140.length : Int) (wrap64 (x37_1 + 1))) = some (r1, r2) := by first | (rw [hy150]; with_reducible exact H) | (have H2_ := (Option.bind_some _ _).symm.trans H; rw [hy150]; with_reducible exact H2_) | (have H2_ := (Option.bind_some _ _).symm.trans H; with_reducible exact H2_) | with_reducible exact H | (rw [hy150]; exact H) | exact H
                                    have Ny150 := Aside0.mk hy150
                                    clear hy150
                                    have H' := Aside0.mk H
                                    clear H
                                    go_wp2_with (first | ((with_reducible refine gate_callee (f := 23) rfl ?_); refine goesL_ (some 61) rfl rfl Tryd.func23 (by kernel_rfl) rfl #[.string (rdOf ByteArray.empty t140 x37_1)] rfl (by (try simp only [List.map_toArray, List.map_cons, List.map_nil]); first | done | rfl | (simp only [List.length_drop, List.length_take]; rfl)) ?_; (with_reducible refine (path_Component.calls kj24 (rdOf ByteArray.empty t140 x37_1) true _ A36.out).mono ?_); rintro e w' ⟨rfl, ⟨nd, rfl⟩⟩; refine ⟨_, rfl, ?_⟩) | ((with_reducible refine gate_builtin (b := .append) (xs := #[.tmp 62, .tmp 64]) rfl ?_); at_builtin; refine Kd.R_append Kd.string (w0 := w) w.heap.size rfl (.tmp 62) (.tmp 64) 38 9 (.string ⟨#[]⟩) 16 rfl Tryd.underlying38 info9 rfl (by decide) (by omega) u6 x6_1 (rdOf ByteArray.empty t140 x37_1) [.string (rdOf ByteArray.empty t140 x37_1)] (fun k_ => some k_ ≠ (.slice (some ad145) t140.length co21 : Value).ownBlock) (fun _ => False) rfl rfl ?aP (fun _ hk => hk.elim) ?aF ?aO ?aB ?aS ?aL ?_; (case aP => exact rfl); (case aB => exact (by repeat (first | (with_reducible first | exact HB.out | apply below_alloc | apply pw_below_drewN | apply below_drew1) | exact HB.out))); (case aF => exact (fun k_ hk => Kd.fresh' (Kd.R_lt (by (with_reducible repeat (first | apply Kd.R_alloc | apply Kd.R_drewN | apply Kd.R_drew)); exact HO_35.out)) k_ hk)); (case aO => exact (by (with_reducible repeat (first | apply Kd.R_alloc | apply Kd.R_drewN | apply Kd.R_drew)); exact HO_6.out)); (case aS => exact (below_size (by repeat (first | (with_reducible first | exact HB.out | apply below_alloc | apply pw_below_drewN | apply below_drew1) | exact HB.out)))); (case aL => have := LMc38.out; omega); intro v151 w39 ho hb hg hat; rw [← Ny150.out] at ho; have n0_ := Aside0.mk (Kd.R_after (ok := (fun _ => True)) (by (with_reducible repeat (first | apply Kd.R_alloc | apply Kd.R_drewN | apply Kd.R_drew)); exact Kd.R_mono HO_35.out (fun _ hk => ⟨trivial, hk⟩)) hg hat); have n1_ := Aside0.mk (hb); have n2_ := Aside0.mk (ho); clear HO_35; clear HB; clear HO_6; have HO_35 := n0_; have HB := n1_; have HO152 := n2_; clear n0_ n1_ n2_; clear ho hb hg hat))
                                    go_roundg kj24
                                    case measure => have := HK1.out; have := HJ24.out; omega
                                    case rel => exact ⟨(y150), (wrap64 (x37_1 + 1)), (by first | rfl | (simp; done) | (simp [*]; done)), H', ⟨by have := HK1.out; have := HJ24.out; omega⟩, ⟨by (with_reducible repeat (first | apply Kd.R_alloc | apply Kd.R_drewN | apply Kd.R_drew)); exact HO152.out⟩, ⟨by (with_reducible repeat (first | apply Kd.R_alloc | apply Kd.R_drewN | apply Kd.R_drew)); exact Kd.R_mono HO_35.out (fun _ hk => hk.2)⟩, ⟨by repeat (first | (with_reducible first | exact HB.out | apply below_alloc | apply pw_below_drewN | apply below_drew1) | exact HB.out)⟩⟩
                                  · rw [if_neg c38] at H
                                    exact absurd H (by simp)
                                · replace c37 := Bool.eq_false_iff.mpr c37
                                  subst c37
                                  have H1 : (some ((⟨#[]⟩ : ByteArray), 92)) = some (r1, r2) := by rw [if_neg (show ¬ (false = true) by decide)] at H; exact H
                                  clear H
                                  have H := H1
                                  clear H1
                                  simp only [Option.some.injEq, Prod.mk.injEq] at H
                                  obtain ⟨rfl, rfl⟩ := H
                                  go_wp2_with (first | ((with_reducible refine gate_callee (f := 23) rfl ?_); refine goesL_ (some 61) rfl rfl Tryd.func23 (by kernel_rfl) rfl #[.string (rdOf ByteArray.empty t140 x37_1)] rfl (by (try simp only [List.map_toArray, List.map_cons, List.map_nil]); first | done | rfl | (simp only [List.length_drop, List.length_take]; rfl)) ?_; (with_reducible refine (path_Component.calls kj24 (rdOf ByteArray.empty t140 x37_1) false _ A36.out).mono ?_); rintro e w' ⟨rfl, ⟨nd, rfl⟩⟩; refine ⟨_, rfl, ?_⟩))
                                  go_ret2
                                  exact ⟨by first | rfl | (simp [errW_none, errW_some] <;> rfl) | (simp only [← hji12]; first | rfl | (simp [errW_none, errW_some] <;> rfl)) | (simp [*, errW_none, errW_some] <;> rfl), by repeat (first | (with_reducible first | exact HB.out | apply below_alloc | apply pw_below_drewN | apply below_drew1) | exact HB.out)⟩
                      · rw [if_neg c24] at H
                        exact absurd H (by simp)
                    · rw [if_neg c23] at H
                      exact absurd H (by simp)
                  · rw [if_neg c22] at H
                    have c22b0 : decide (x37_1 < (t140.length : Int)) = false := decide_eq_false c22
                    clear c22
                    replace H := Option.bind_eq_some_iff.mp H
                    obtain ⟨⟨t143, t144⟩, A400, H⟩ := H
                    replace H : (if t144 = 0 then (some (t143, 0)) else (some ((⟨#[]⟩ : ByteArray), 92))) = some (r1, r2) := H
                    have A40 := Aside0.mk A400
                    clear A400
                    by_cases c41 : t144 = 0
                    · rw [if_pos c41] at H
                      have c41b0 : (t144 == 0) = true := beq_iff_eq.mpr c41
                      have c41b1 : (t144 != 0) = false := bne_eq_false_iff_eq.mpr c41
                      clear c41
                      simp only [Option.some.injEq, Prod.mk.injEq] at H
                      obtain ⟨rfl, rfl⟩ := H
                      obtain ⟨Ao42, co42, eo42⟩ := Kd.R_slice HO_6.out
                      subst eo42
                      go_wp2_with (first | ((with_reducible refine gate_callee (f := 40) rfl ?_); refine goesL_ (some 69) rfl rfl Tryd.func40 (by kernel_rfl) rfl #[.slice Ao42 x6_1.length co42] rfl (by (try simp only [List.map_toArray, List.map_cons, List.map_nil]); first | done | rfl | (simp only [List.length_drop, List.length_take]; rfl)) ?_; (with_reducible refine (path_Join.calls k1 _ _ x6_1 t143 t144 _ ?side1 ?side2 A40.out).mono ?_); (case side1 => repeat (first | exact (Kd.R_reads' HO_6.out).2.2 | (with_reducible refine Kd.C_alloc ?_ _) | (with_reducible refine Kd.C_drewN ?_ _) | (with_reducible refine Kd.C_drew ?_))); (case side2 => exact (Kd.R_reads' HO_6.out).2.1); rintro e w43 ⟨rfl, hb⟩; refine ⟨_, rfl, ?_⟩; have n0_ := Aside0.mk (Kd.R_below (by (with_reducible repeat (first | apply Kd.R_alloc | apply Kd.R_drewN | apply Kd.R_drew)); exact HO_6.out) hb); have n1_ := Aside0.mk (Kd.R_below (by (with_reducible repeat (first | apply Kd.R_alloc | apply Kd.R_drewN | apply Kd.R_drew)); exact HO_35.out) hb); have n2_ := Aside0.mk (below_step (by repeat (first | (with_reducible first | exact HB.out | apply below_alloc | apply pw_below_drewN | apply below_drew1) | exact HB.out)) hb); clear HO_6; clear HO_35; clear HB; have HO_6 := n0_; have HO_35 := n1_; have HB := n2_; clear n0_ n1_ n2_; (try clear hb); (try clear hb2); (try clear hk); (try clear hi)))
                      go_ret2
                      exact ⟨by first | rfl | (simp [errW_none, errW_some] <;> rfl) | (simp only [← hji12]; first | rfl | (simp [errW_none, errW_some] <;> rfl)) | (simp [*, errW_none, errW_some] <;> rfl), by repeat (first | (with_reducible first | exact HB.out | apply below_alloc | apply pw_below_drewN | apply below_drew1) | exact HB.out)⟩
                    · rw [if_neg c41] at H
                      have c41b0 : (t144 == 0) = false := beq_eq_false_iff_ne.mpr c41
                      have c41b1 : (t144 != 0) = true := bne_iff_ne.mpr c41
                      simp only [Option.some.injEq, Prod.mk.injEq] at H
                      obtain ⟨rfl, rfl⟩ := H
                      obtain ⟨Ao44, co44, eo44⟩ := Kd.R_slice HO_6.out
                      subst eo44
                      go_wp2_with (first | ((with_reducible refine gate_callee (f := 40) rfl ?_); refine goesL_ (some 69) rfl rfl Tryd.func40 (by kernel_rfl) rfl #[.slice Ao44 x6_1.length co44] rfl (by (try simp only [List.map_toArray, List.map_cons, List.map_nil]); first | done | rfl | (simp only [List.length_drop, List.length_take]; rfl)) ?_; (with_reducible refine (path_Join.calls k1 _ _ x6_1 t143 t144 _ ?side1 ?side2 A40.out).mono ?_); (case side1 => repeat (first | exact (Kd.R_reads' HO_6.out).2.2 | (with_reducible refine Kd.C_alloc ?_ _) | (with_reducible refine Kd.C_drewN ?_ _) | (with_reducible refine Kd.C_drew ?_))); (case side2 => exact (Kd.R_reads' HO_6.out).2.1); rintro e w45 ⟨rfl, hb⟩; refine ⟨_, rfl, ?_⟩; have n0_ := Aside0.mk (Kd.R_below (by (with_reducible repeat (first | apply Kd.R_alloc | apply Kd.R_drewN | apply Kd.R_drew)); exact HO_6.out) hb); have n1_ := Aside0.mk (Kd.R_below (by (with_reducible repeat (first | apply Kd.R_alloc | apply Kd.R_drewN | apply Kd.R_drew)); exact HO_35.out) hb); have n2_ := Aside0.mk (below_step (by repeat (first | (with_reducible first | exact HB.out | apply below_alloc | apply pw_below_drewN | apply below_drew1) | exact HB.out)) hb); clear HO_6; clear HO_35; clear HB; have HO_6 := n0_; have HO_35 := n1_; have HB := n2_; clear n0_ n1_ n2_; (try clear hb); (try clear hb2); (try clear hk); (try clear hi)))
                      go_ret2
                      exact ⟨by first | rfl | (simp [errW_none, errW_some] <;> rfl) | (simp only [← hji12]; first | rfl | (simp [errW_none, errW_some] <;> rfl)) | (simp [*, errW_none, errW_some] <;> rfl), by repeat (first | (with_reducible first | exact HB.out | apply below_alloc | apply pw_below_drewN | apply below_drew1) | exact HB.out)⟩
            · rw [if_neg c14] at H
              exact absurd H (by simp)
          · rw [if_neg c13] at H
            exact absurd H (by simp)
      · rw [if_neg c7] at H
        exact absurd H (by simp)
    · replace c6 := Bool.eq_false_iff.mpr c6
      subst c6
      have H1 : (some ((⟨#[]⟩ : ByteArray), 91)) = some (r1, r2) := by rw [if_neg (show ¬ (false = true) by decide)] at H; exact H
      clear H
      have H := H1
      clear H1
      simp only [Option.some.injEq, Prod.mk.injEq] at H
      obtain ⟨rfl, rfl⟩ := H
      go_enter Tryd.func21, Tryd.ntmps21
      go_wp2_with (first | ((with_reducible refine gate_callee (f := 22) rfl ?_); refine goesL_ (some 13) rfl rfl Tryd.func22 (by kernel_rfl) rfl #[.string a0] rfl (by (try simp only [List.map_toArray, List.map_cons, List.map_nil]); first | done | rfl | (simp only [List.length_drop, List.length_take]; rfl)) ?_; (with_reducible refine (path_Split.calls k a0 t132 t133 _ A3.out).mono ?_); rintro e w46 ⟨v134, rfl, ho0, hb⟩; refine ⟨_, rfl, ?_⟩; have n0_ := Aside0.mk (Kd.R_lower ho0 (below_size (by repeat (first | (with_reducible first | exact HB.out | apply below_alloc | apply pw_below_drewN | apply below_drew1) | exact HB.out)))); have n1_ := Aside0.mk (below_step (by repeat (first | (with_reducible first | exact HB.out | apply below_alloc | apply pw_below_drewN | apply below_drew1) | exact HB.out)) hb); clear HB; have HO135 := n0_; have HB := n1_; clear n0_ n1_; (try clear hb); (try clear hb2); (try clear hk); (try clear hi); (try clear ho0)) | (refine wpList_conv_at rfl 9 44 5 (.tmp 21) a1 rfl Tryd.underlying9 Tryd.underlying44 Tryd.underlying5 rfl (linkS_some A5.out).1 ?_; intro cvw cvA cvC cvb cvk cvc) | ((with_reducible refine gate_callee (f := 38) rfl ?_); refine goesL_ (some 23) rfl rfl Tryd.func38 (by kernel_rfl) rfl #[.slice cvA (bytesOf a1).length cvC] rfl (by (try simp only [List.map_toArray, List.map_cons, List.map_nil]); first | done | rfl | (simp only [List.length_drop, List.length_take]; rfl)) ?_; (with_reducible refine (linkS_step a1 false cvb cvk cvc A5.out).mono ?_); rintro e w47 ⟨rfl, hb⟩; refine ⟨_, rfl, ?_⟩; have n0_ := Aside0.mk (Kd.R_below (by (with_reducible repeat (first | apply Kd.R_alloc | apply Kd.R_drewN | apply Kd.R_drew)); exact HO135.out) hb); have n1_ := Aside0.mk (below_step (by repeat (first | (with_reducible first | exact HB.out | apply below_alloc | apply pw_below_drewN | apply below_drew1) | exact HB.out)) hb); clear HO135; clear HB; have HO135 := n0_; have HB := n1_; clear n0_ n1_; (try clear hb); (try clear hb2); (try clear hk); (try clear hi)))
      go_ret2
      exact ⟨by first | rfl | (simp [errW_none, errW_some] <;> rfl) | (simp [*, errW_none, errW_some] <;> rfl), by repeat (first | (with_reducible first | exact HB.out | apply below_alloc | apply pw_below_drewN | apply below_drew1) | exact HB.out)⟩
  · rw [if_neg c4] at H
    have c4b0 : (t133 == 0) = false := beq_eq_false_iff_ne.mpr c4
    have c4b1 : (t133 != 0) = true := bne_iff_ne.mpr c4
    simp only [Option.some.injEq, Prod.mk.injEq] at H
    obtain ⟨rfl, rfl⟩ := H
    go_enter Tryd.func21, Tryd.ntmps21
    go_wp2_with (first | ((with_reducible refine gate_callee (f := 22) rfl ?_); refine goesL_ (some 13) rfl rfl Tryd.func22 (by kernel_rfl) rfl #[.string a0] rfl (by (try simp only [List.map_toArray, List.map_cons, List.map_nil]); first | done | rfl | (simp only [List.length_drop, List.length_take]; rfl)) ?_; (with_reducible refine (path_Split.calls k a0 t132 t133 _ A3.out).mono ?_); rintro e w48 ⟨v134, rfl, ho0, hb⟩; refine ⟨_, rfl, ?_⟩; have n0_ := Aside0.mk (Kd.R_lower ho0 (below_size (by repeat (first | (with_reducible first | exact HB.out | apply below_alloc | apply pw_below_drewN | apply below_drew1) | exact HB.out)))); have n1_ := Aside0.mk (below_step (by repeat (first | (with_reducible first | exact HB.out | apply below_alloc | apply pw_below_drewN | apply below_drew1) | exact HB.out)) hb); clear HB; have HO135 := n0_; have HB := n1_; clear n0_ n1_; (try clear hb); (try clear hb2); (try clear hk); (try clear hi); (try clear ho0)))
    go_ret2
    exact ⟨by first | rfl | (simp [errW_none, errW_some] <;> rfl) | (simp [*, errW_none, errW_some] <;> rfl), by repeat (first | (with_reducible first | exact HB.out | apply below_alloc | apply pw_below_drewN | apply below_drew1) | exact HB.out)⟩

/-! ### stockyardlaw09_awake: function 16 -/
def stockyardlaw09_awake.f (k : Nat)  : Option (Bool) := (filetype_Parse.f (⟨#[116, 101, 120, 116, 43, 107, 108]⟩ : ByteArray)).bind fun bt153 => ((filetype_Follow.f k (⟨#[47, 47, 97, 47, 98, 47, 99]⟩ : ByteArray) (⟨#[46, 46, 47, 100, 47, 46, 47, 101]⟩ : ByteArray)).bind fun bt159 => (if bt153.2.2.2.2 = 0 then (if (bt153.1 == 1 && (bt153.2.1 && (bt153.2.2.1 && (!bt153.2.2.2.1)))) = true then (if bt159.1.toList = ([47, 47, 97, 47, 100, 47, 101] : List UInt8) then (some (bt159.2 == 0)) else (some false)) else (some false)) else (some false)))
theorem stockyardlaw09_awake.mono : ∀ k, LeO (stockyardlaw09_awake.f k ) (stockyardlaw09_awake.f (k + 1) ) := by
  intro  k
  unfold stockyardlaw09_awake.f
  repeat' first
      | (with_reducible exact filetype_Follow.mono _ _ _)
      | (with_reducible exact LeO.refl _)
      | (with_reducible exact LeO.none _)
      | (with_reducible refine LeO.ite ?_ ?_)
      | (with_reducible refine LeO.bind ?_ (fun _ => ?_))
      | exact filetype_Follow.mono _ _ _
      | exact LeO.none _
      | refine LeO.ite ?_ ?_
      | refine LeO.bind ?_ (fun _ => ?_)
set_option maxHeartbeats 8000000 in
set_option maxRecDepth 100000 in
theorem stockyardlaw09_awake.calls (k : Nat)  (r : Bool) (w : World) (h : stockyardlaw09_awake.f k  = some r) :
    Calls Tryd.prog 16 #[] w fun e w' => e = .returned (.bool r) ∧ Below w.heap.size w w' := by
  have hu23 := Tryd.underlying23
  have HB := Aside0.mk (Below.refl w.heap.size w)
  have H : ((filetype_Parse.f (⟨#[116, 101, 120, 116, 43, 107, 108]⟩ : ByteArray)).bind fun bt153 => ((filetype_Follow.f k (⟨#[47, 47, 97, 47, 98, 47, 99]⟩ : ByteArray) (⟨#[46, 46, 47, 100, 47, 46, 47, 101]⟩ : ByteArray)).bind fun bt159 => (if bt153.2.2.2.2 = 0 then (if (bt153.1 == 1 && (bt153.2.1 && (bt153.2.2.1 && (!bt153.2.2.2.1)))) = true then (if bt159.1.toList = ([47, 47, 97, 47, 100, 47, 101] : List UInt8) then (some (bt159.2 == 0)) else (some false)) else (some false)) else (some false)))) = some r := h
  clear h
  replace H := Option.bind_eq_some_iff.mp H
  obtain ⟨⟨t153, t154, t155, t156, t157⟩, A10, H⟩ := H
  replace H : ((filetype_Follow.f k (⟨#[47, 47, 97, 47, 98, 47, 99]⟩ : ByteArray) (⟨#[46, 46, 47, 100, 47, 46, 47, 101]⟩ : ByteArray)).bind fun bt159 => (if t157 = 0 then (if (t153 == 1 && (t154 && (t155 && (!t156)))) = true then (if bt159.1.toList = ([47, 47, 97, 47, 100, 47, 101] : List UInt8) then (some (bt159.2 == 0)) else (some false)) else (some false)) else (some false))) = some r := H
  have A1 := Aside0.mk A10
  clear A10
  replace H := Option.bind_eq_some_iff.mp H
  obtain ⟨⟨t159, t160⟩, A20, H⟩ := H
  replace H : (if t157 = 0 then (if (t153 == 1 && (t154 && (t155 && (!t156)))) = true then (if t159.toList = ([47, 47, 97, 47, 100, 47, 101] : List UInt8) then (some (t160 == 0)) else (some false)) else (some false)) else (some false)) = some r := H
  have A2 := Aside0.mk A20
  clear A20
  by_cases c3 : t157 = 0
  · rw [if_pos c3] at H
    have c3b0 : (t157 == 0) = true := beq_iff_eq.mpr c3
    have c3b1 : (t157 != 0) = false := bne_eq_false_iff_eq.mpr c3
    clear c3
    by_cases c4 : (t153 == 1 && (t154 && (t155 && (!t156)))) = true
    · rw [if_pos c4] at H
      have c4b0 : (t153 == 1 && (t154 && (t155 && (!t156)))) = true := c4
      (try (have c4b1 : decide (t153 = 1 && (t154 && (t155 && (!t156)))) = true := by simpa using c4))
      (try (have c4b2 : (t153 == 1 && (t154 && (t155 && (!t156)))) = true := by simpa using c4))
      clear c4
      by_cases c5 : t159.toList = ([47, 47, 97, 47, 100, 47, 101] : List UInt8)
      · rw [if_pos c5] at H
        have c5b0 : (t159.toList == ([47, 47, 97, 47, 100, 47, 101] : List UInt8)) = true := beq_iff_eq.mpr c5
        have c5b1 : (t159.toList != ([47, 47, 97, 47, 100, 47, 101] : List UInt8)) = false := bne_eq_false_iff_eq.mpr c5
        clear c5
        obtain rfl := Option.some.inj H
        go_enter Tryd.func16, Tryd.ntmps16
        go_wp2_with (first | ((with_reducible refine gate_callee (f := 18) rfl ?_); refine goesL_ (some 6) rfl rfl Tryd.func18 (by kernel_rfl) rfl #[.string (⟨#[116, 101, 120, 116, 43, 107, 108]⟩ : ByteArray)] rfl (by (try simp only [List.map_toArray, List.map_cons, List.map_nil]); first | done | rfl | (simp only [List.length_drop, List.length_take]; rfl)) ?_; (with_reducible refine (filetype_Parse.calls (⟨#[116, 101, 120, 116, 43, 107, 108]⟩ : ByteArray) t153 t154 t155 t156 t157 _ A1.out).mono ?_); rintro e w6 ⟨rfl, hb⟩; refine ⟨_, rfl, ?_⟩; have n0_ := Aside0.mk (below_step (by repeat (first | (with_reducible first | exact HB.out | apply below_alloc | apply pw_below_drewN | apply below_drew1) | exact HB.out)) hb); clear HB; have HB := n0_; clear n0_; (try clear hb); (try clear hb2); (try clear hk); (try clear hi)) | ((with_reducible refine gate_dst (N := 1) rfl ?_); refine box_event ?hg (N := 1) ?hd (cs := #[.int .i64 0, .bool false, .bool false, .bool false]) (t := 23) ?hr ?_; (case hd => rfl); (case hg => rfl); (case hr => first | (go_simp; done) | (go_simp; rfl)); intro gb158 hg w7 hbox hb; have n0_ := Aside0.mk (below_step (by repeat (first | (with_reducible first | exact HB.out | apply below_alloc | apply pw_below_drewN | apply below_drew1) | exact HB.out)) hb); have n1_ := Aside0.mk (hbox); have n2_ := Aside0.mk ((by rw [hg]; exact (below_size (by repeat (first | (with_reducible first | exact HB.out | apply below_alloc | apply pw_below_drewN | apply below_drew1) | exact HB.out))) : w.heap.size ≤ gb158)); have n3_ := Aside0.mk ((by rw [hg]; exact (below_size (by repeat (first | (with_reducible first | exact HB.out | apply below_alloc | apply pw_below_drewN | apply below_drew1) | exact HB.out))) : w.heap.size ≤ gb158)); clear HB; have HB := n0_; have BK158 := n1_; have GW158 := n2_; have GE158 := n3_; clear n0_ n1_ n2_ n3_; clear hb hbox hg; have hcz8_0 : w7.cell? ⟨gb158, 0, none⟩ = some (.int .i64 0) := (blk_cell BK158.out 0).trans rfl; have hcz8_1 : w7.cell? ⟨gb158, 1, none⟩ = some (.bool false) := (blk_cell BK158.out 1).trans rfl; have hcz8_2 : w7.cell? ⟨gb158, 2, none⟩ = some (.bool false) := (blk_cell BK158.out 2).trans rfl; have hcz8_3 : w7.cell? ⟨gb158, 3, none⟩ = some (.bool false) := (blk_cell BK158.out 3).trans rfl; have hfz8_0 := blk_frozen BK158.out 0; have hfz8_1 := blk_frozen BK158.out 1; have hfz8_2 := blk_frozen BK158.out 2; have hfz8_3 := blk_frozen BK158.out 3) | ((with_reducible refine gate_callee (f := 21) rfl ?_); refine goesL_ (some 10) rfl rfl Tryd.func21 (by kernel_rfl) rfl #[.string (⟨#[47, 47, 97, 47, 98, 47, 99]⟩ : ByteArray), .string (⟨#[46, 46, 47, 100, 47, 46, 47, 101]⟩ : ByteArray)] rfl (by (try simp only [List.map_toArray, List.map_cons, List.map_nil]); first | done | rfl | (simp only [List.length_drop, List.length_take]; rfl)) ?_; (with_reducible refine (filetype_Follow.calls k (⟨#[47, 47, 97, 47, 98, 47, 99]⟩ : ByteArray) (⟨#[46, 46, 47, 100, 47, 46, 47, 101]⟩ : ByteArray) t159 t160 _ A2.out).mono ?_); rintro e w9 ⟨rfl, hb⟩; refine ⟨_, rfl, ?_⟩; have n0_ := Aside0.mk (blk_below (g := gb158) (o := .cells #[.int .i64 t153, .bool t154, .bool t155, .bool t156] 23 (0, 0)) (by (with_reducible repeat (first | refine blk_drewN ?_ _ | refine blk_drew ?_ | refine blk_alloc ?_ _)); refine blk_put (cs := #[.int .i64 t153, .bool t154, .bool t155, .bool false]) ?_ 3 _ rfl; (with_reducible repeat (first | refine blk_drewN ?_ _ | refine blk_drew ?_ | refine blk_alloc ?_ _)); refine blk_put (cs := #[.int .i64 t153, .bool t154, .bool false, .bool false]) ?_ 2 _ rfl; (with_reducible repeat (first | refine blk_drewN ?_ _ | refine blk_drew ?_ | refine blk_alloc ?_ _)); refine blk_put (cs := #[.int .i64 t153, .bool false, .bool false, .bool false]) ?_ 1 _ rfl; (with_reducible repeat (first | refine blk_drewN ?_ _ | refine blk_drew ?_ | refine blk_alloc ?_ _)); refine blk_put (cs := #[.int .i64 0, .bool false, .bool false, .bool false]) ?_ 0 _ rfl; (with_reducible repeat (first | refine blk_drewN ?_ _ | refine blk_drew ?_ | refine blk_alloc ?_ _)); exact BK158.out) hb); have n1_ := Aside0.mk (below_step (by repeat (first | (with_reducible first | exact HB.out | apply below_alloc | apply pw_below_drewN | apply below_drew1 | refine below_set ?_ GE158.out) | exact HB.out)) hb); clear BK158; clear HB; have BK158 := n0_; have HB := n1_; clear n0_ n1_; (try clear hb); (try clear hb2); (try clear hk); (try clear hi); have hcz10_0 : w9.cell? ⟨gb158, 0, none⟩ = some (.int .i64 t153) := (blk_cell BK158.out 0).trans rfl; have hcz10_1 : w9.cell? ⟨gb158, 1, none⟩ = some (.bool t154) := (blk_cell BK158.out 1).trans rfl; have hcz10_2 : w9.cell? ⟨gb158, 2, none⟩ = some (.bool t155) := (blk_cell BK158.out 2).trans rfl; have hcz10_3 : w9.cell? ⟨gb158, 3, none⟩ = some (.bool t156) := (blk_cell BK158.out 3).trans rfl; have hfz10_0 := blk_frozen BK158.out 0; have hfz10_1 := blk_frozen BK158.out 1; have hfz10_2 := blk_frozen BK158.out 2; have hfz10_3 := blk_frozen BK158.out 3))
        go_ret
        exact ⟨by first | rfl | (simp [errW_none, errW_some] <;> rfl) | (simp [*, errW_none, errW_some] <;> rfl), by repeat (first | (with_reducible first | exact HB.out | apply below_alloc | apply pw_below_drewN | apply below_drew1 | refine below_set ?_ GE158.out) | exact HB.out)⟩
      · rw [if_neg c5] at H
        have c5b0 : (t159.toList == ([47, 47, 97, 47, 100, 47, 101] : List UInt8)) = false := beq_eq_false_iff_ne.mpr c5
        have c5b1 : (t159.toList != ([47, 47, 97, 47, 100, 47, 101] : List UInt8)) = true := bne_iff_ne.mpr c5
        obtain rfl := Option.some.inj H
        go_enter Tryd.func16, Tryd.ntmps16
        go_wp2_with (first | ((with_reducible refine gate_callee (f := 18) rfl ?_); refine goesL_ (some 6) rfl rfl Tryd.func18 (by kernel_rfl) rfl #[.string (⟨#[116, 101, 120, 116, 43, 107, 108]⟩ : ByteArray)] rfl (by (try simp only [List.map_toArray, List.map_cons, List.map_nil]); first | done | rfl | (simp only [List.length_drop, List.length_take]; rfl)) ?_; (with_reducible refine (filetype_Parse.calls (⟨#[116, 101, 120, 116, 43, 107, 108]⟩ : ByteArray) t153 t154 t155 t156 t157 _ A1.out).mono ?_); rintro e w11 ⟨rfl, hb⟩; refine ⟨_, rfl, ?_⟩; have n0_ := Aside0.mk (below_step (by repeat (first | (with_reducible first | exact HB.out | apply below_alloc | apply pw_below_drewN | apply below_drew1) | exact HB.out)) hb); clear HB; have HB := n0_; clear n0_; (try clear hb); (try clear hb2); (try clear hk); (try clear hi)) | ((with_reducible refine gate_dst (N := 1) rfl ?_); refine box_event ?hg (N := 1) ?hd (cs := #[.int .i64 0, .bool false, .bool false, .bool false]) (t := 23) ?hr ?_; (case hd => rfl); (case hg => rfl); (case hr => first | (go_simp; done) | (go_simp; rfl)); intro gb158 hg w12 hbox hb; have n0_ := Aside0.mk (below_step (by repeat (first | (with_reducible first | exact HB.out | apply below_alloc | apply pw_below_drewN | apply below_drew1) | exact HB.out)) hb); have n1_ := Aside0.mk (hbox); have n2_ := Aside0.mk ((by rw [hg]; exact (below_size (by repeat (first | (with_reducible first | exact HB.out | apply below_alloc | apply pw_below_drewN | apply below_drew1) | exact HB.out))) : w.heap.size ≤ gb158)); have n3_ := Aside0.mk ((by rw [hg]; exact (below_size (by repeat (first | (with_reducible first | exact HB.out | apply below_alloc | apply pw_below_drewN | apply below_drew1) | exact HB.out))) : w.heap.size ≤ gb158)); clear HB; have HB := n0_; have BK158 := n1_; have GW158 := n2_; have GE158 := n3_; clear n0_ n1_ n2_ n3_; clear hb hbox hg; have hcz13_0 : w12.cell? ⟨gb158, 0, none⟩ = some (.int .i64 0) := (blk_cell BK158.out 0).trans rfl; have hcz13_1 : w12.cell? ⟨gb158, 1, none⟩ = some (.bool false) := (blk_cell BK158.out 1).trans rfl; have hcz13_2 : w12.cell? ⟨gb158, 2, none⟩ = some (.bool false) := (blk_cell BK158.out 2).trans rfl; have hcz13_3 : w12.cell? ⟨gb158, 3, none⟩ = some (.bool false) := (blk_cell BK158.out 3).trans rfl; have hfz13_0 := blk_frozen BK158.out 0; have hfz13_1 := blk_frozen BK158.out 1; have hfz13_2 := blk_frozen BK158.out 2; have hfz13_3 := blk_frozen BK158.out 3) | ((with_reducible refine gate_callee (f := 21) rfl ?_); refine goesL_ (some 10) rfl rfl Tryd.func21 (by kernel_rfl) rfl #[.string (⟨#[47, 47, 97, 47, 98, 47, 99]⟩ : ByteArray), .string (⟨#[46, 46, 47, 100, 47, 46, 47, 101]⟩ : ByteArray)] rfl (by (try simp only [List.map_toArray, List.map_cons, List.map_nil]); first | done | rfl | (simp only [List.length_drop, List.length_take]; rfl)) ?_; (with_reducible refine (filetype_Follow.calls k (⟨#[47, 47, 97, 47, 98, 47, 99]⟩ : ByteArray) (⟨#[46, 46, 47, 100, 47, 46, 47, 101]⟩ : ByteArray) t159 t160 _ A2.out).mono ?_); rintro e w14 ⟨rfl, hb⟩; refine ⟨_, rfl, ?_⟩; have n0_ := Aside0.mk (blk_below (g := gb158) (o := .cells #[.int .i64 t153, .bool t154, .bool t155, .bool t156] 23 (0, 0)) (by (with_reducible repeat (first | refine blk_drewN ?_ _ | refine blk_drew ?_ | refine blk_alloc ?_ _)); refine blk_put (cs := #[.int .i64 t153, .bool t154, .bool t155, .bool false]) ?_ 3 _ rfl; (with_reducible repeat (first | refine blk_drewN ?_ _ | refine blk_drew ?_ | refine blk_alloc ?_ _)); refine blk_put (cs := #[.int .i64 t153, .bool t154, .bool false, .bool false]) ?_ 2 _ rfl; (with_reducible repeat (first | refine blk_drewN ?_ _ | refine blk_drew ?_ | refine blk_alloc ?_ _)); refine blk_put (cs := #[.int .i64 t153, .bool false, .bool false, .bool false]) ?_ 1 _ rfl; (with_reducible repeat (first | refine blk_drewN ?_ _ | refine blk_drew ?_ | refine blk_alloc ?_ _)); refine blk_put (cs := #[.int .i64 0, .bool false, .bool false, .bool false]) ?_ 0 _ rfl; (with_reducible repeat (first | refine blk_drewN ?_ _ | refine blk_drew ?_ | refine blk_alloc ?_ _)); exact BK158.out) hb); have n1_ := Aside0.mk (below_step (by repeat (first | (with_reducible first | exact HB.out | apply below_alloc | apply pw_below_drewN | apply below_drew1 | refine below_set ?_ GE158.out) | exact HB.out)) hb); clear BK158; clear HB; have BK158 := n0_; have HB := n1_; clear n0_ n1_; (try clear hb); (try clear hb2); (try clear hk); (try clear hi); have hcz15_0 : w14.cell? ⟨gb158, 0, none⟩ = some (.int .i64 t153) := (blk_cell BK158.out 0).trans rfl; have hcz15_1 : w14.cell? ⟨gb158, 1, none⟩ = some (.bool t154) := (blk_cell BK158.out 1).trans rfl; have hcz15_2 : w14.cell? ⟨gb158, 2, none⟩ = some (.bool t155) := (blk_cell BK158.out 2).trans rfl; have hcz15_3 : w14.cell? ⟨gb158, 3, none⟩ = some (.bool t156) := (blk_cell BK158.out 3).trans rfl; have hfz15_0 := blk_frozen BK158.out 0; have hfz15_1 := blk_frozen BK158.out 1; have hfz15_2 := blk_frozen BK158.out 2; have hfz15_3 := blk_frozen BK158.out 3))
        go_ret
        exact ⟨by first | rfl | (simp [errW_none, errW_some] <;> rfl) | (simp [*, errW_none, errW_some] <;> rfl), by repeat (first | (with_reducible first | exact HB.out | apply below_alloc | apply pw_below_drewN | apply below_drew1 | refine below_set ?_ GE158.out) | exact HB.out)⟩
    · rw [if_neg c4] at H
      have c4b0 : (t153 == 1 && (t154 && (t155 && (!t156)))) = false := by simpa using c4
      (try (have c4b1 : decide (t153 = 1 && (t154 && (t155 && (!t156)))) = false := by simpa using c4))
      (try (have c4b2 : (t153 == 1 && (t154 && (t155 && (!t156)))) = false := by simpa using c4))
      (try (have c4b3 : ¬ (t153 = 1 && (t154 && (t155 && (!t156)))) := by simpa using c4))
      clear c4
      obtain rfl := Option.some.inj H
      go_enter Tryd.func16, Tryd.ntmps16
      go_wp2_with (first | ((with_reducible refine gate_callee (f := 18) rfl ?_); refine goesL_ (some 6) rfl rfl Tryd.func18 (by kernel_rfl) rfl #[.string (⟨#[116, 101, 120, 116, 43, 107, 108]⟩ : ByteArray)] rfl (by (try simp only [List.map_toArray, List.map_cons, List.map_nil]); first | done | rfl | (simp only [List.length_drop, List.length_take]; rfl)) ?_; (with_reducible refine (filetype_Parse.calls (⟨#[116, 101, 120, 116, 43, 107, 108]⟩ : ByteArray) t153 t154 t155 t156 t157 _ A1.out).mono ?_); rintro e w16 ⟨rfl, hb⟩; refine ⟨_, rfl, ?_⟩; have n0_ := Aside0.mk (below_step (by repeat (first | (with_reducible first | exact HB.out | apply below_alloc | apply pw_below_drewN | apply below_drew1) | exact HB.out)) hb); clear HB; have HB := n0_; clear n0_; (try clear hb); (try clear hb2); (try clear hk); (try clear hi)) | ((with_reducible refine gate_dst (N := 1) rfl ?_); refine box_event ?hg (N := 1) ?hd (cs := #[.int .i64 0, .bool false, .bool false, .bool false]) (t := 23) ?hr ?_; (case hd => rfl); (case hg => rfl); (case hr => first | (go_simp; done) | (go_simp; rfl)); intro gb158 hg w17 hbox hb; have n0_ := Aside0.mk (below_step (by repeat (first | (with_reducible first | exact HB.out | apply below_alloc | apply pw_below_drewN | apply below_drew1) | exact HB.out)) hb); have n1_ := Aside0.mk (hbox); have n2_ := Aside0.mk ((by rw [hg]; exact (below_size (by repeat (first | (with_reducible first | exact HB.out | apply below_alloc | apply pw_below_drewN | apply below_drew1) | exact HB.out))) : w.heap.size ≤ gb158)); have n3_ := Aside0.mk ((by rw [hg]; exact (below_size (by repeat (first | (with_reducible first | exact HB.out | apply below_alloc | apply pw_below_drewN | apply below_drew1) | exact HB.out))) : w.heap.size ≤ gb158)); clear HB; have HB := n0_; have BK158 := n1_; have GW158 := n2_; have GE158 := n3_; clear n0_ n1_ n2_ n3_; clear hb hbox hg; have hcz18_0 : w17.cell? ⟨gb158, 0, none⟩ = some (.int .i64 0) := (blk_cell BK158.out 0).trans rfl; have hcz18_1 : w17.cell? ⟨gb158, 1, none⟩ = some (.bool false) := (blk_cell BK158.out 1).trans rfl; have hcz18_2 : w17.cell? ⟨gb158, 2, none⟩ = some (.bool false) := (blk_cell BK158.out 2).trans rfl; have hcz18_3 : w17.cell? ⟨gb158, 3, none⟩ = some (.bool false) := (blk_cell BK158.out 3).trans rfl; have hfz18_0 := blk_frozen BK158.out 0; have hfz18_1 := blk_frozen BK158.out 1; have hfz18_2 := blk_frozen BK158.out 2; have hfz18_3 := blk_frozen BK158.out 3) | ((with_reducible refine gate_callee (f := 21) rfl ?_); refine goesL_ (some 10) rfl rfl Tryd.func21 (by kernel_rfl) rfl #[.string (⟨#[47, 47, 97, 47, 98, 47, 99]⟩ : ByteArray), .string (⟨#[46, 46, 47, 100, 47, 46, 47, 101]⟩ : ByteArray)] rfl (by (try simp only [List.map_toArray, List.map_cons, List.map_nil]); first | done | rfl | (simp only [List.length_drop, List.length_take]; rfl)) ?_; (with_reducible refine (filetype_Follow.calls k (⟨#[47, 47, 97, 47, 98, 47, 99]⟩ : ByteArray) (⟨#[46, 46, 47, 100, 47, 46, 47, 101]⟩ : ByteArray) t159 t160 _ A2.out).mono ?_); rintro e w19 ⟨rfl, hb⟩; refine ⟨_, rfl, ?_⟩; have n0_ := Aside0.mk (blk_below (g := gb158) (o := .cells #[.int .i64 t153, .bool t154, .bool t155, .bool t156] 23 (0, 0)) (by (with_reducible repeat (first | refine blk_drewN ?_ _ | refine blk_drew ?_ | refine blk_alloc ?_ _)); refine blk_put (cs := #[.int .i64 t153, .bool t154, .bool t155, .bool false]) ?_ 3 _ rfl; (with_reducible repeat (first | refine blk_drewN ?_ _ | refine blk_drew ?_ | refine blk_alloc ?_ _)); refine blk_put (cs := #[.int .i64 t153, .bool t154, .bool false, .bool false]) ?_ 2 _ rfl; (with_reducible repeat (first | refine blk_drewN ?_ _ | refine blk_drew ?_ | refine blk_alloc ?_ _)); refine blk_put (cs := #[.int .i64 t153, .bool false, .bool false, .bool false]) ?_ 1 _ rfl; (with_reducible repeat (first | refine blk_drewN ?_ _ | refine blk_drew ?_ | refine blk_alloc ?_ _)); refine blk_put (cs := #[.int .i64 0, .bool false, .bool false, .bool false]) ?_ 0 _ rfl; (with_reducible repeat (first | refine blk_drewN ?_ _ | refine blk_drew ?_ | refine blk_alloc ?_ _)); exact BK158.out) hb); have n1_ := Aside0.mk (below_step (by repeat (first | (with_reducible first | exact HB.out | apply below_alloc | apply pw_below_drewN | apply below_drew1 | refine below_set ?_ GE158.out) | exact HB.out)) hb); clear BK158; clear HB; have BK158 := n0_; have HB := n1_; clear n0_ n1_; (try clear hb); (try clear hb2); (try clear hk); (try clear hi); have hcz20_0 : w19.cell? ⟨gb158, 0, none⟩ = some (.int .i64 t153) := (blk_cell BK158.out 0).trans rfl; have hcz20_1 : w19.cell? ⟨gb158, 1, none⟩ = some (.bool t154) := (blk_cell BK158.out 1).trans rfl; have hcz20_2 : w19.cell? ⟨gb158, 2, none⟩ = some (.bool t155) := (blk_cell BK158.out 2).trans rfl; have hcz20_3 : w19.cell? ⟨gb158, 3, none⟩ = some (.bool t156) := (blk_cell BK158.out 3).trans rfl; have hfz20_0 := blk_frozen BK158.out 0; have hfz20_1 := blk_frozen BK158.out 1; have hfz20_2 := blk_frozen BK158.out 2; have hfz20_3 := blk_frozen BK158.out 3))
      go_ret
      exact ⟨by first | rfl | (simp [errW_none, errW_some] <;> rfl) | (simp [*, errW_none, errW_some] <;> rfl), by repeat (first | (with_reducible first | exact HB.out | apply below_alloc | apply pw_below_drewN | apply below_drew1 | refine below_set ?_ GE158.out) | exact HB.out)⟩
  · rw [if_neg c3] at H
    have c3b0 : (t157 == 0) = false := beq_eq_false_iff_ne.mpr c3
    have c3b1 : (t157 != 0) = true := bne_iff_ne.mpr c3
    obtain rfl := Option.some.inj H
    go_enter Tryd.func16, Tryd.ntmps16
    go_wp2_with (first | ((with_reducible refine gate_callee (f := 18) rfl ?_); refine goesL_ (some 6) rfl rfl Tryd.func18 (by kernel_rfl) rfl #[.string (⟨#[116, 101, 120, 116, 43, 107, 108]⟩ : ByteArray)] rfl (by (try simp only [List.map_toArray, List.map_cons, List.map_nil]); first | done | rfl | (simp only [List.length_drop, List.length_take]; rfl)) ?_; (with_reducible refine (filetype_Parse.calls (⟨#[116, 101, 120, 116, 43, 107, 108]⟩ : ByteArray) t153 t154 t155 t156 t157 _ A1.out).mono ?_); rintro e w21 ⟨rfl, hb⟩; refine ⟨_, rfl, ?_⟩; have n0_ := Aside0.mk (below_step (by repeat (first | (with_reducible first | exact HB.out | apply below_alloc | apply pw_below_drewN | apply below_drew1) | exact HB.out)) hb); clear HB; have HB := n0_; clear n0_; (try clear hb); (try clear hb2); (try clear hk); (try clear hi)) | ((with_reducible refine gate_dst (N := 1) rfl ?_); refine box_event ?hg (N := 1) ?hd (cs := #[.int .i64 0, .bool false, .bool false, .bool false]) (t := 23) ?hr ?_; (case hd => rfl); (case hg => rfl); (case hr => first | (go_simp; done) | (go_simp; rfl)); intro gb158 hg w22 hbox hb; have n0_ := Aside0.mk (below_step (by repeat (first | (with_reducible first | exact HB.out | apply below_alloc | apply pw_below_drewN | apply below_drew1) | exact HB.out)) hb); have n1_ := Aside0.mk (hbox); have n2_ := Aside0.mk ((by rw [hg]; exact (below_size (by repeat (first | (with_reducible first | exact HB.out | apply below_alloc | apply pw_below_drewN | apply below_drew1) | exact HB.out))) : w.heap.size ≤ gb158)); have n3_ := Aside0.mk ((by rw [hg]; exact (below_size (by repeat (first | (with_reducible first | exact HB.out | apply below_alloc | apply pw_below_drewN | apply below_drew1) | exact HB.out))) : w.heap.size ≤ gb158)); clear HB; have HB := n0_; have BK158 := n1_; have GW158 := n2_; have GE158 := n3_; clear n0_ n1_ n2_ n3_; clear hb hbox hg; have hcz23_0 : w22.cell? ⟨gb158, 0, none⟩ = some (.int .i64 0) := (blk_cell BK158.out 0).trans rfl; have hcz23_1 : w22.cell? ⟨gb158, 1, none⟩ = some (.bool false) := (blk_cell BK158.out 1).trans rfl; have hcz23_2 : w22.cell? ⟨gb158, 2, none⟩ = some (.bool false) := (blk_cell BK158.out 2).trans rfl; have hcz23_3 : w22.cell? ⟨gb158, 3, none⟩ = some (.bool false) := (blk_cell BK158.out 3).trans rfl; have hfz23_0 := blk_frozen BK158.out 0; have hfz23_1 := blk_frozen BK158.out 1; have hfz23_2 := blk_frozen BK158.out 2; have hfz23_3 := blk_frozen BK158.out 3) | ((with_reducible refine gate_callee (f := 21) rfl ?_); refine goesL_ (some 10) rfl rfl Tryd.func21 (by kernel_rfl) rfl #[.string (⟨#[47, 47, 97, 47, 98, 47, 99]⟩ : ByteArray), .string (⟨#[46, 46, 47, 100, 47, 46, 47, 101]⟩ : ByteArray)] rfl (by (try simp only [List.map_toArray, List.map_cons, List.map_nil]); first | done | rfl | (simp only [List.length_drop, List.length_take]; rfl)) ?_; (with_reducible refine (filetype_Follow.calls k (⟨#[47, 47, 97, 47, 98, 47, 99]⟩ : ByteArray) (⟨#[46, 46, 47, 100, 47, 46, 47, 101]⟩ : ByteArray) t159 t160 _ A2.out).mono ?_); rintro e w24 ⟨rfl, hb⟩; refine ⟨_, rfl, ?_⟩; have n0_ := Aside0.mk (blk_below (g := gb158) (o := .cells #[.int .i64 t153, .bool t154, .bool t155, .bool t156] 23 (0, 0)) (by (with_reducible repeat (first | refine blk_drewN ?_ _ | refine blk_drew ?_ | refine blk_alloc ?_ _)); refine blk_put (cs := #[.int .i64 t153, .bool t154, .bool t155, .bool false]) ?_ 3 _ rfl; (with_reducible repeat (first | refine blk_drewN ?_ _ | refine blk_drew ?_ | refine blk_alloc ?_ _)); refine blk_put (cs := #[.int .i64 t153, .bool t154, .bool false, .bool false]) ?_ 2 _ rfl; (with_reducible repeat (first | refine blk_drewN ?_ _ | refine blk_drew ?_ | refine blk_alloc ?_ _)); refine blk_put (cs := #[.int .i64 t153, .bool false, .bool false, .bool false]) ?_ 1 _ rfl; (with_reducible repeat (first | refine blk_drewN ?_ _ | refine blk_drew ?_ | refine blk_alloc ?_ _)); refine blk_put (cs := #[.int .i64 0, .bool false, .bool false, .bool false]) ?_ 0 _ rfl; (with_reducible repeat (first | refine blk_drewN ?_ _ | refine blk_drew ?_ | refine blk_alloc ?_ _)); exact BK158.out) hb); have n1_ := Aside0.mk (below_step (by repeat (first | (with_reducible first | exact HB.out | apply below_alloc | apply pw_below_drewN | apply below_drew1 | refine below_set ?_ GE158.out) | exact HB.out)) hb); clear BK158; clear HB; have BK158 := n0_; have HB := n1_; clear n0_ n1_; (try clear hb); (try clear hb2); (try clear hk); (try clear hi)))
    go_ret
    exact ⟨by first | rfl | (simp [errW_none, errW_some] <;> rfl) | (simp [*, errW_none, errW_some] <;> rfl), by repeat (first | (with_reducible first | exact HB.out | apply below_alloc | apply pw_below_drewN | apply below_drew1 | refine below_set ?_ GE158.out) | exact HB.out)⟩

/-! ### stockyardref09_Text: function 17 -/
mutual
def stockyardref09_Text.j0 : Nat → ByteArray → ByteArray → Int → Bool → Bool → Bool → Option (ByteArray)
  | 0, _, _, _, _, _, _ => none
  | k + 1, x3, x4, x162000, x162001, x162002, x162003 => if x162002 = true then (if x4.size + 1 ≤ 9223372036854775807 then (stockyardref09_Text.j1 k x3 (x4 ++ (⟨#[108]⟩ : ByteArray)) x162000 x162001 x162002 x162003) else (none)) else (stockyardref09_Text.j1 k x3 x4 x162000 x162001 x162002 x162003)
def stockyardref09_Text.j1 : Nat → ByteArray → ByteArray → Int → Bool → Bool → Bool → Option (ByteArray)
  | 0, _, _, _, _, _, _ => none
  | k + 1, x3, x4, x162000, x162001, x162002, x162003 => if x162003 = true then (if x4.size + 1 ≤ 9223372036854775807 then (if (x4 ++ (⟨#[120]⟩ : ByteArray)).toList = ([] : List UInt8) then (some x3) else (if 1 + (x4 ++ (⟨#[120]⟩ : ByteArray)).size ≤ 9223372036854775807 then (if x3.size + ((⟨#[43]⟩ : ByteArray) ++ (x4 ++ (⟨#[120]⟩ : ByteArray))).size ≤ 9223372036854775807 then (some (x3 ++ ((⟨#[43]⟩ : ByteArray) ++ (x4 ++ (⟨#[120]⟩ : ByteArray))))) else (none)) else (none))) else (none)) else (if x4.toList = ([] : List UInt8) then (some x3) else (if 1 + x4.size ≤ 9223372036854775807 then (if x3.size + ((⟨#[43]⟩ : ByteArray) ++ x4).size ≤ 9223372036854775807 then (some (x3 ++ ((⟨#[43]⟩ : ByteArray) ++ x4))) else (none)) else (none)))
end
def stockyardref09_Text.f (k : Nat) (a0_0 : Int) (a0_1 : Bool) (a0_2 : Bool) (a0_3 : Bool) : Option (ByteArray) := (some (([(⟨#[116, 101, 120, 116]⟩ : ByteArray), (⟨#[98, 105, 110, 97, 114, 121]⟩ : ByteArray), (⟨#[108, 105, 110, 107]⟩ : ByteArray)] : List ByteArray) : List ByteArray)).bind fun y162 => (if 0 ≤ (wrap64 (a0_0 - 1)) then (if (wrap64 (a0_0 - 1)) < (y162.length : Int) then (if a0_1 = true then (if 0 + 1 ≤ 9223372036854775807 then (stockyardref09_Text.j0 k (rdOf ByteArray.empty y162 (wrap64 (a0_0 - 1))) ((⟨#[]⟩ : ByteArray) ++ (⟨#[107]⟩ : ByteArray)) a0_0 a0_1 a0_2 a0_3) else (none)) else (stockyardref09_Text.j0 k (rdOf ByteArray.empty y162 (wrap64 (a0_0 - 1))) (⟨#[]⟩ : ByteArray) a0_0 a0_1 a0_2 a0_3)) else (none)) else (none))
theorem stockyardref09_Text.mono_l : ∀ k, (∀ y0 y1 y2 y3 y4 y5, LeO (stockyardref09_Text.j0 k y0 y1 y2 y3 y4 y5) (stockyardref09_Text.j0 (k + 1) y0 y1 y2 y3 y4 y5)) ∧ (∀ y0 y1 y2 y3 y4 y5, LeO (stockyardref09_Text.j1 k y0 y1 y2 y3 y4 y5) (stockyardref09_Text.j1 (k + 1) y0 y1 y2 y3 y4 y5))
  | 0 => ⟨fun _ _ _ _ _ _ r h => by simp [stockyardref09_Text.j0] at h, fun _ _ _ _ _ _ r h => by simp [stockyardref09_Text.j1] at h⟩
  | k + 1 => by
    obtain ⟨ih0, ih1⟩ := stockyardref09_Text.mono_l k
    refine ⟨?_, ?_⟩
    · intro y0 y1 y2 y3 y4 y5
      unfold stockyardref09_Text.j0
      repeat' first
      | (with_reducible exact ih0 _ _ _ _ _ _)
      | (with_reducible exact ih1 _ _ _ _ _ _)
      | (with_reducible exact LeO.refl _)
      | (with_reducible exact LeO.none _)
      | (with_reducible refine LeO.ite ?_ ?_)
      | (with_reducible refine LeO.bind ?_ (fun _ => ?_))
      | exact ih0 _ _ _ _ _ _
      | exact ih1 _ _ _ _ _ _
      | exact LeO.none _
      | refine LeO.ite ?_ ?_
      | refine LeO.bind ?_ (fun _ => ?_)
    · intro y0 y1 y2 y3 y4 y5
      unfold stockyardref09_Text.j1
      repeat' first
      | (with_reducible exact ih0 _ _ _ _ _ _)
      | (with_reducible exact ih1 _ _ _ _ _ _)
      | (with_reducible exact LeO.refl _)
      | (with_reducible exact LeO.none _)
      | (with_reducible refine LeO.ite ?_ ?_)
      | (with_reducible refine LeO.bind ?_ (fun _ => ?_))
      | exact ih0 _ _ _ _ _ _
      | exact ih1 _ _ _ _ _ _
      | exact LeO.none _
      | refine LeO.ite ?_ ?_
      | refine LeO.bind ?_ (fun _ => ?_)
theorem stockyardref09_Text.mono : ∀ a0 a1 a2 a3 k, LeO (stockyardref09_Text.f k a0 a1 a2 a3) (stockyardref09_Text.f (k + 1) a0 a1 a2 a3) := by
  intro a0 a1 a2 a3 k
  obtain ⟨ih0, ih1⟩ := stockyardref09_Text.mono_l k
  unfold stockyardref09_Text.f
  repeat' first
      | (with_reducible exact ih0 _ _ _ _ _ _)
      | (with_reducible exact ih1 _ _ _ _ _ _)
      | (with_reducible exact LeO.refl _)
      | (with_reducible exact LeO.none _)
      | (with_reducible refine LeO.ite ?_ ?_)
      | (with_reducible refine LeO.bind ?_ (fun _ => ?_))
      | exact ih0 _ _ _ _ _ _
      | exact ih1 _ _ _ _ _ _
      | exact LeO.none _
      | refine LeO.ite ?_ ?_
      | refine LeO.bind ?_ (fun _ => ?_)
set_option maxHeartbeats 8000000 in
set_option maxRecDepth 100000 in
theorem stockyardref09_Text.calls (k : Nat) (a0_0 : Int) (a0_1 : Bool) (a0_2 : Bool) (a0_3 : Bool) (r : ByteArray) (w : World) (h : stockyardref09_Text.f k a0_0 a0_1 a0_2 a0_3 = some r) :
    Calls Tryd.prog 17 #[.agg #[.int .i64 a0_0, .bool a0_1, .bool a0_2, .bool a0_3]] w fun e w' => e = .returned (.string r) ∧ Below w.heap.size w w' := by
  have hu23 := Tryd.underlying23
  have HB := Aside0.mk (Below.refl w.heap.size w)
  have H : ((some (([(⟨#[116, 101, 120, 116]⟩ : ByteArray), (⟨#[98, 105, 110, 97, 114, 121]⟩ : ByteArray), (⟨#[108, 105, 110, 107]⟩ : ByteArray)] : List ByteArray) : List ByteArray)).bind fun y162 => (if 0 ≤ (wrap64 (a0_0 - 1)) then (if (wrap64 (a0_0 - 1)) < (y162.length : Int) then (if a0_1 = true then (if 0 + 1 ≤ 9223372036854775807 then (stockyardref09_Text.j0 k (rdOf ByteArray.empty y162 (wrap64 (a0_0 - 1))) ((⟨#[]⟩ : ByteArray) ++ (⟨#[107]⟩ : ByteArray)) a0_0 a0_1 a0_2 a0_3) else (none)) else (stockyardref09_Text.j0 k (rdOf ByteArray.empty y162 (wrap64 (a0_0 - 1))) (⟨#[]⟩ : ByteArray) a0_0 a0_1 a0_2 a0_3)) else (none)) else (none))) = some r := h
  clear h
  obtain ⟨y162, hy162⟩ : ∃ y_ : List ByteArray, y_ = (([(⟨#[116, 101, 120, 116]⟩ : ByteArray), (⟨#[98, 105, 110, 97, 114, 121]⟩ : ByteArray), (⟨#[108, 105, 110, 107]⟩ : ByteArray)] : List ByteArray)) := ⟨_, rfl⟩
  replace H : (if 0 ≤ (wrap64 (a0_0 - 1)) then (if (wrap64 (a0_0 - 1)) < (y162.length : Int) then (if a0_1 = true then (if 0 + 1 ≤ 9223372036854775807 then (stockyardref09_Text.j0 k (rdOf ByteArray.empty y162 (wrap64 (a0_0 - 1))) ((⟨#[]⟩ : ByteArray) ++ (⟨#[107]⟩ : ByteArray)) a0_0 a0_1 a0_2 a0_3) else (none)) else (stockyardref09_Text.j0 k (rdOf ByteArray.empty y162 (wrap64 (a0_0 - 1))) (⟨#[]⟩ : ByteArray) a0_0 a0_1 a0_2 a0_3)) else (none)) else (none)) = some r := by first | (rw [hy162]; with_reducible exact H) | (have H2_ := (Option.bind_some _ _).symm.trans H; rw [hy162]; with_reducible exact H2_) | (have H2_ := (Option.bind_some _ _).symm.trans H; with_reducible exact H2_) | with_reducible exact H | (rw [hy162]; exact H) | exact H
  have Ny162 := Aside0.mk hy162
  clear hy162
  obtain ⟨ji2, hji2⟩ : ∃ j_ : Int, (wrap64 (a0_0 - 1)) = j_ := ⟨_, rfl⟩
  replace H : (if 0 ≤ (ji2) then (if (ji2) < (y162.length : Int) then (if a0_1 = true then (if 0 + 1 ≤ 9223372036854775807 then (stockyardref09_Text.j0 k (rdOf ByteArray.empty y162 (ji2)) ((⟨#[]⟩ : ByteArray) ++ (⟨#[107]⟩ : ByteArray)) a0_0 a0_1 a0_2 a0_3) else (none)) else (stockyardref09_Text.j0 k (rdOf ByteArray.empty y162 (ji2)) (⟨#[]⟩ : ByteArray) a0_0 a0_1 a0_2 a0_3)) else (none)) else (none)) = some r := by first | (rw [hji2] at H; exact H) | (simp only [hji2] at H ⊢; exact H)
  have hji2w : (IntKind.i64.wrap (a0_0 - 1)) = ji2 := (i64_w _).trans hji2
  by_cases c3 : 0 ≤ (ji2)
  · rw [if_pos c3] at H
    have c3b0 : decide (0 ≤ (ji2)) = true := decide_eq_true c3
    clear c3
    by_cases c4 : (ji2) < (y162.length : Int)
    · rw [if_pos c4] at H
      have c4b0 : decide ((ji2) < (y162.length : Int)) = true := decide_eq_true c4
      clear c4
      have HC5 := Aside0.mk H
      clear H
      go_enter Tryd.func17, Tryd.ntmps17
      go_upto_if 12 with (first | ((with_reducible refine gate_dst (N := 1) rfl ?_); refine box_event ?hg (N := 1) ?hd (cs := #[.int .i64 a0_0, .bool a0_1, .bool a0_2, .bool a0_3]) (t := 23) ?hr ?_; (case hd => rfl); (case hg => rfl); (case hr => first | (go_simp; done) | (go_simp; rfl)); intro gb161 hg w6 hbox hb; have n0_ := Aside0.mk (below_step (by repeat (first | (with_reducible first | exact HB.out | apply below_alloc | apply pw_below_drewN | apply below_drew1) | exact HB.out)) hb); have n1_ := Aside0.mk (hbox); have n2_ := Aside0.mk ((by rw [hg]; exact (below_size (by repeat (first | (with_reducible first | exact HB.out | apply below_alloc | apply pw_below_drewN | apply below_drew1) | exact HB.out))) : w.heap.size ≤ gb161)); have n3_ := Aside0.mk ((by rw [hg]; exact (below_size (by repeat (first | (with_reducible first | exact HB.out | apply below_alloc | apply pw_below_drewN | apply below_drew1) | exact HB.out))) : w.heap.size ≤ gb161)); clear HB; have HB := n0_; have BK161 := n1_; have GW161 := n2_; have GE161 := n3_; clear n0_ n1_ n2_ n3_; clear hb hbox hg) | ((with_reducible refine gate_dst (N := 5) rfl ?_); refine Kd.R_lit Kd.string _ 9 ?hg (N := 5) ?hd (xs := ([(⟨#[116, 101, 120, 116]⟩ : ByteArray), (⟨#[98, 105, 110, 97, 114, 121]⟩ : ByteArray), (⟨#[108, 105, 110, 107]⟩ : ByteArray)] : List ByteArray)) (inner := [.string (⟨#[116, 101, 120, 116]⟩ : ByteArray), .string (⟨#[98, 105, 110, 97, 114, 121]⟩ : ByteArray), .string (⟨#[108, 105, 110, 107]⟩ : ByteArray)]) (ok := fun _ => True) (okp := fun _ => True) ?hr ?hp (fun _ hk => hk) trivial (Below.refl _ _) (Nat.le_refl _) (by simp) ?_; (case hd => rfl); (case hg => rfl); (case hr => first | (go_simp; done) | (go_simp; rfl)); (case hp => exact (Reps.one (show Kd.M Kd.string _ _ _ (⟨#[116, 101, 120, 116]⟩ : ByteArray) [.string (⟨#[116, 101, 120, 116]⟩ : ByteArray)] from rfl) (Reps.one (show Kd.M Kd.string _ _ _ (⟨#[98, 105, 110, 97, 114, 121]⟩ : ByteArray) [.string (⟨#[98, 105, 110, 97, 114, 121]⟩ : ByteArray)] from rfl) (Reps.one (show Kd.M Kd.string _ _ _ (⟨#[108, 105, 110, 107]⟩ : ByteArray) [.string (⟨#[108, 105, 110, 107]⟩ : ByteArray)] from rfl) (Reps.none _ _))))); intro v163 w7 ho8 hb hg_ hnew_; clear hg_ hnew_; (first | rw [← Ny162.out] at ho8 | (simp only [Int.reduceToNat] at ho8; rw [← Ny162.out] at ho8)); have n0_ := Aside0.mk (Kd.R_lower ho8 (below_size (by repeat (first | (with_reducible first | exact HB.out | apply below_alloc | apply pw_below_drewN | apply below_drew1 | refine below_set ?_ GE161.out) | exact HB.out)))); have n1_ := Aside0.mk (blk_below (g := gb161) (o := .cells #[.int .i64 a0_0, .bool a0_1, .bool a0_2, .bool a0_3] 23 (0, 0)) (by (with_reducible repeat (first | refine blk_drewN ?_ _ | refine blk_drew ?_ | refine blk_alloc ?_ _)); exact BK161.out) hb); have n2_ := Aside0.mk (below_step (by repeat (first | (with_reducible first | exact HB.out | apply below_alloc | apply pw_below_drewN | apply below_drew1 | refine below_set ?_ GE161.out) | exact HB.out)) hb); clear BK161; clear HB; have HO164 := n0_; have BK161 := n1_; have HB := n2_; clear n0_ n1_ n2_; clear hb ho8; have hcz9_0 : w7.cell? ⟨gb161, 0, none⟩ = some (.int .i64 a0_0) := (blk_cell BK161.out 0).trans rfl; have hcz9_1 : w7.cell? ⟨gb161, 1, none⟩ = some (.bool a0_1) := (blk_cell BK161.out 1).trans rfl; have hcz9_2 : w7.cell? ⟨gb161, 2, none⟩ = some (.bool a0_2) := (blk_cell BK161.out 2).trans rfl; have hcz9_3 : w7.cell? ⟨gb161, 3, none⟩ = some (.bool a0_3) := (blk_cell BK161.out 3).trans rfl; have hfz9_0 := blk_frozen BK161.out 0; have hfz9_1 := blk_frozen BK161.out 1; have hfz9_2 := blk_frozen BK161.out 2; have hfz9_3 := blk_frozen BK161.out 3; obtain ⟨Ao10, co10, eo10⟩ := Kd.R_slice HO164.out; subst eo10; have p165 : 0 ≤ ((ji2) : Int) := of_decide_eq_true (by first | (with_reducible assumption) | assumption); have q165 : (ji2) < (y162.length : Int) := of_decide_eq_true (by first | (with_reducible assumption) | assumption); obtain ⟨ad165, e165, hx165_0⟩ := Kd.at_string (Kd.R_reads' HO164.out).2.2 (ji2) p165 q165; cases e165; replace p165 := eq_true p165; replace q165 := eq_true q165))
      (try simp only [Act.put, List.setIfInBounds_toArray, List.set_cons_zero, List.set_cons_succ])
      go_cut [4] (fun v4 wc => ∃ (kq : Nat) (x4_4 : ByteArray), v4 = .string x4_4 ∧ Aside0 (stockyardref09_Text.j0 kq (rdOf ByteArray.empty y162 (ji2)) x4_4 a0_0 a0_1 a0_2 a0_3 = some r) ∧ Aside0 (kq ≤ k) ∧ Aside0 (wc.heap[gb161]? = some (.cells #[.int .i64 a0_0, .bool a0_1, .bool a0_2, .bool a0_3] 23 (0, 0))) ∧ Aside0 (Below w.heap.size w wc))
      case first =>
        have H := HC5.out
        clear HC5
        by_cases c11 : a0_1 = true
        · subst c11
          have H1 : (if 0 + 1 ≤ 9223372036854775807 then (stockyardref09_Text.j0 k (rdOf ByteArray.empty y162 (ji2)) ((⟨#[]⟩ : ByteArray) ++ (⟨#[107]⟩ : ByteArray)) a0_0 true a0_2 a0_3) else (none)) = some r := by rw [if_pos rfl] at H; exact H
          clear H
          have H := H1
          clear H1
          by_cases c12 : 0 + 1 ≤ 9223372036854775807
          · rw [if_pos c12] at H
            have c12b0 := eq_true c12
            have c12b1 : decide (0 + 1 ≤ 9223372036854775807) = true := decide_eq_true c12
            try have c12b2 : (9223372036854775807 < 0 + 1) = False := eq_false (Nat.not_lt.2 c12)
            have H' := Aside0.mk H
            clear H
            go_wp2
            go_meet
            case rel => exact ⟨_, ((⟨#[]⟩ : ByteArray) ++ (⟨#[107]⟩ : ByteArray)), (by first | rfl | (simp; done) | (simp [*]; done)), H', ⟨by first | omega | exact Nat.le_refl _⟩, ⟨by (with_reducible repeat (first | refine blk_drewN ?_ _ | refine blk_drew ?_ | refine blk_alloc ?_ _)); exact BK161.out⟩, ⟨by repeat (first | (with_reducible first | exact HB.out | apply below_alloc | apply pw_below_drewN | apply below_drew1 | refine below_set ?_ GE161.out) | exact HB.out)⟩⟩
          · rw [if_neg c12] at H
            exact absurd H (by simp)
        · replace c11 := Bool.eq_false_iff.mpr c11
          subst c11
          have H1 : (stockyardref09_Text.j0 k (rdOf ByteArray.empty y162 (ji2)) (⟨#[]⟩ : ByteArray) a0_0 false a0_2 a0_3) = some r := by rw [if_neg (show ¬ (false = true) by decide)] at H; exact H
          clear H
          have H := H1
          clear H1
          have H' := Aside0.mk H
          clear H
          go_wp2
          go_meet
          case rel => exact ⟨_, ((⟨#[]⟩ : ByteArray)), (by first | rfl | (simp; done) | (simp [*]; done)), H', ⟨by first | omega | exact Nat.le_refl _⟩, ⟨by (with_reducible repeat (first | refine blk_drewN ?_ _ | refine blk_drew ?_ | refine blk_alloc ?_ _)); exact BK161.out⟩, ⟨by repeat (first | (with_reducible first | exact HB.out | apply below_alloc | apply pw_below_drewN | apply below_drew1 | refine below_set ?_ GE161.out) | exact HB.out)⟩⟩
      case rest =>
        clear HC5
        try clear c1
        try clear p1
        try clear q1
        try clear hx1
        try clear p2
        try clear c3
        try clear c3b0
        try clear c4
        try clear c4b0
        try clear p6
        try clear c11
        try clear c12
        try clear c12b0
        try clear c12b1
        try clear c12b2
        try clear hcz9_0
        try clear hcz9_1
        try clear hcz9_2
        try clear hcz9_3
        try clear hfz9_0
        try clear hfz9_1
        try clear hfz9_2
        try clear hfz9_3
        try clear hx165_0
        try clear p165
        try clear q165
        obtain ⟨kq, x4_4, rfl, HA, HJ4, BK161, HB⟩ := hcut
        cases kq with
        | zero => exact absurd HA.out (by simp [stockyardref09_Text.j0])
        | succ kj4 =>
          have H := HA.out
          clear HA
          simp only [stockyardref09_Text.j0] at H
          have HC13 := Aside0.mk H
          clear H
          have hcz14_0 : wc.cell? ⟨gb161, 0, none⟩ = some (.int .i64 a0_0) := (blk_cell BK161.out 0).trans rfl
          have hcz14_1 : wc.cell? ⟨gb161, 1, none⟩ = some (.bool a0_1) := (blk_cell BK161.out 1).trans rfl
          have hcz14_2 : wc.cell? ⟨gb161, 2, none⟩ = some (.bool a0_2) := (blk_cell BK161.out 2).trans rfl
          have hcz14_3 : wc.cell? ⟨gb161, 3, none⟩ = some (.bool a0_3) := (blk_cell BK161.out 3).trans rfl
          have hfz14_0 := blk_frozen BK161.out 0
          have hfz14_1 := blk_frozen BK161.out 1
          have hfz14_2 := blk_frozen BK161.out 2
          have hfz14_3 := blk_frozen BK161.out 3
          go_upto_if 16 with (fail)
          go_cut [4] (fun v4 wc => ∃ (kq : Nat) (x4_12 : ByteArray), v4 = .string x4_12 ∧ Aside0 (stockyardref09_Text.j1 kq (rdOf ByteArray.empty y162 (ji2)) x4_12 a0_0 a0_1 a0_2 a0_3 = some r) ∧ Aside0 (kq ≤ kj4) ∧ Aside0 (wc.heap[gb161]? = some (.cells #[.int .i64 a0_0, .bool a0_1, .bool a0_2, .bool a0_3] 23 (0, 0))) ∧ Aside0 (Below w.heap.size w wc))
          case first =>
            have H := HC13.out
            clear HC13
            by_cases c15 : a0_2 = true
            · subst c15
              have H1 : (if x4_4.size + 1 ≤ 9223372036854775807 then (stockyardref09_Text.j1 kj4 (rdOf ByteArray.empty y162 (ji2)) (x4_4 ++ (⟨#[108]⟩ : ByteArray)) a0_0 a0_1 true a0_3) else (none)) = some r := by rw [if_pos rfl] at H; exact H
              clear H
              have H := H1
              clear H1
              by_cases c16 : x4_4.size + 1 ≤ 9223372036854775807
              · rw [if_pos c16] at H
                have c16b0 := eq_true c16
                have c16b1 : decide (x4_4.size + 1 ≤ 9223372036854775807) = true := decide_eq_true c16
                try have c16b2 : (9223372036854775807 < x4_4.size + 1) = False := eq_false (Nat.not_lt.2 c16)
                have H' := Aside0.mk H
                clear H
                go_wp2
                go_meet
                case rel => exact ⟨_, (x4_4 ++ (⟨#[108]⟩ : ByteArray)), (by first | rfl | (simp; done) | (simp [*]; done)), H', ⟨by have := HJ4.out; first | omega | exact Nat.le_refl _⟩, ⟨by (with_reducible repeat (first | refine blk_drewN ?_ _ | refine blk_drew ?_ | refine blk_alloc ?_ _)); exact BK161.out⟩, ⟨by repeat (first | (with_reducible first | exact HB.out | apply below_alloc | apply pw_below_drewN | apply below_drew1 | refine below_set ?_ GE161.out) | exact HB.out)⟩⟩
              · rw [if_neg c16] at H
                exact absurd H (by simp)
            · replace c15 := Bool.eq_false_iff.mpr c15
              subst c15
              have H1 : (stockyardref09_Text.j1 kj4 (rdOf ByteArray.empty y162 (ji2)) x4_4 a0_0 a0_1 false a0_3) = some r := by rw [if_neg (show ¬ (false = true) by decide)] at H; exact H
              clear H
              have H := H1
              clear H1
              have H' := Aside0.mk H
              clear H
              go_wp2
              go_meet
              case rel => exact ⟨_, (x4_4), (by first | rfl | (simp; done) | (simp [*]; done)), H', ⟨by have := HJ4.out; first | omega | exact Nat.le_refl _⟩, ⟨by (with_reducible repeat (first | refine blk_drewN ?_ _ | refine blk_drew ?_ | refine blk_alloc ?_ _)); exact BK161.out⟩, ⟨by repeat (first | (with_reducible first | exact HB.out | apply below_alloc | apply pw_below_drewN | apply below_drew1 | refine below_set ?_ GE161.out) | exact HB.out)⟩⟩
          case rest =>
            clear HC13
            try clear c1
            try clear p1
            try clear q1
            try clear hx1
            try clear p2
            try clear c3
            try clear c3b0
            try clear c4
            try clear c4b0
            try clear p6
            try clear c11
            try clear c12
            try clear c12b0
            try clear c12b1
            try clear c12b2
            try clear c15
            try clear c16
            try clear c16b0
            try clear c16b1
            try clear c16b2
            try clear p16
            try clear q16
            try clear hx16
            try clear hcz14_0
            try clear hcz14_1
            try clear hcz14_2
            try clear hcz14_3
            try clear hcz9_0
            try clear hcz9_1
            try clear hcz9_2
            try clear hcz9_3
            try clear hfz14_0
            try clear hfz14_1
            try clear hfz14_2
            try clear hfz14_3
            try clear hfz9_0
            try clear hfz9_1
            try clear hfz9_2
            try clear hfz9_3
            try clear hx165_0
            try clear p1
            try clear p165
            try clear p2
            try clear p6
            try clear q1
            try clear q165
            obtain ⟨kq, x4_12, rfl, HA, HJ12, BK161, HB⟩ := hcut
            cases kq with
            | zero => exact absurd HA.out (by simp [stockyardref09_Text.j1])
            | succ kj12 =>
              have H := HA.out
              clear HA
              simp only [stockyardref09_Text.j1] at H
              by_cases c17 : a0_3 = true
              · subst c17
                have H1 : (if x4_12.size + 1 ≤ 9223372036854775807 then (if (x4_12 ++ (⟨#[120]⟩ : ByteArray)).toList = ([] : List UInt8) then (some (rdOf ByteArray.empty y162 (ji2))) else (if 1 + (x4_12 ++ (⟨#[120]⟩ : ByteArray)).size ≤ 9223372036854775807 then (if (rdOf ByteArray.empty y162 (ji2)).size + ((⟨#[43]⟩ : ByteArray) ++ (x4_12 ++ (⟨#[120]⟩ : ByteArray))).size ≤ 9223372036854775807 then (some ((rdOf ByteArray.empty y162 (ji2)) ++ ((⟨#[43]⟩ : ByteArray) ++ (x4_12 ++ (⟨#[120]⟩ : ByteArray))))) else (none)) else (none))) else (none)) = some r := by rw [if_pos rfl] at H; exact H
                clear H
                have H := H1
                clear H1
                by_cases c18 : x4_12.size + 1 ≤ 9223372036854775807
                · rw [if_pos c18] at H
                  have c18b0 := eq_true c18
                  have c18b1 : decide (x4_12.size + 1 ≤ 9223372036854775807) = true := decide_eq_true c18
                  try have c18b2 : (9223372036854775807 < x4_12.size + 1) = False := eq_false (Nat.not_lt.2 c18)
                  by_cases c19 : (x4_12 ++ (⟨#[120]⟩ : ByteArray)).toList = ([] : List UInt8)
                  · rw [if_pos c19] at H
                    have c19b0 : ((x4_12 ++ (⟨#[120]⟩ : ByteArray)).toList == ([] : List UInt8)) = true := beq_iff_eq.mpr c19
                    have c19b1 : ((x4_12 ++ (⟨#[120]⟩ : ByteArray)).toList != ([] : List UInt8)) = false := bne_eq_false_iff_eq.mpr c19
                    clear c19
                    obtain rfl := Option.some.inj H
                    have hcz20_0 : wc.cell? ⟨gb161, 0, none⟩ = some (.int .i64 a0_0) := (blk_cell BK161.out 0).trans rfl
                    have hcz20_1 : wc.cell? ⟨gb161, 1, none⟩ = some (.bool a0_1) := (blk_cell BK161.out 1).trans rfl
                    have hcz20_2 : wc.cell? ⟨gb161, 2, none⟩ = some (.bool a0_2) := (blk_cell BK161.out 2).trans rfl
                    have hcz20_3 : wc.cell? ⟨gb161, 3, none⟩ = some (.bool true) := (blk_cell BK161.out 3).trans rfl
                    have hfz20_0 := blk_frozen BK161.out 0
                    have hfz20_1 := blk_frozen BK161.out 1
                    have hfz20_2 := blk_frozen BK161.out 2
                    have hfz20_3 := blk_frozen BK161.out 3
                    go_wp2
                    go_ret
                    exact ⟨by first | rfl | (simp [errW_none, errW_some] <;> rfl) | (simp only [← hji2]; first | rfl | (simp [errW_none, errW_some] <;> rfl)) | (simp [*, errW_none, errW_some] <;> rfl), by repeat (first | (with_reducible first | exact HB.out | apply below_alloc | apply pw_below_drewN | apply below_drew1 | refine below_set ?_ GE161.out) | exact HB.out)⟩
                  · rw [if_neg c19] at H
                    have c19b0 : ((x4_12 ++ (⟨#[120]⟩ : ByteArray)).toList == ([] : List UInt8)) = false := beq_eq_false_iff_ne.mpr c19
                    have c19b1 : ((x4_12 ++ (⟨#[120]⟩ : ByteArray)).toList != ([] : List UInt8)) = true := bne_iff_ne.mpr c19
                    by_cases c21 : 1 + (x4_12 ++ (⟨#[120]⟩ : ByteArray)).size ≤ 9223372036854775807
                    · rw [if_pos c21] at H
                      have c21b0 := eq_true c21
                      have c21b1 : decide (1 + (x4_12 ++ (⟨#[120]⟩ : ByteArray)).size ≤ 9223372036854775807) = true := decide_eq_true c21
                      have c21b5 : (1 + (x4_12.size + 1) ≤ 9223372036854775807) = True := eq_true (by have q_ := of_decide_eq_true c21b1; (repeat rw [ByteArray.size_append] at q_); exact q_)
                      have c21b6 : decide (1 + (x4_12.size + 1) ≤ 9223372036854775807) = true := decide_eq_true (by have q_ := of_decide_eq_true c21b1; (repeat rw [ByteArray.size_append] at q_); exact q_)
                      try have c21b7 : (9223372036854775807 < 1 + (x4_12.size + 1)) = False := eq_false (Nat.not_lt.2 (by have q_ := of_decide_eq_true c21b1; (repeat rw [ByteArray.size_append] at q_); exact q_))
                      try have c21b2 : (9223372036854775807 < 1 + (x4_12 ++ (⟨#[120]⟩ : ByteArray)).size) = False := eq_false (Nat.not_lt.2 c21)
                      by_cases c22 : (rdOf ByteArray.empty y162 (ji2)).size + ((⟨#[43]⟩ : ByteArray) ++ (x4_12 ++ (⟨#[120]⟩ : ByteArray))).size ≤ 9223372036854775807
                      · rw [if_pos c22] at H
                        have c22b0 := eq_true c22
                        have c22b1 : decide ((rdOf ByteArray.empty y162 (ji2)).size + ((⟨#[43]⟩ : ByteArray) ++ (x4_12 ++ (⟨#[120]⟩ : ByteArray))).size ≤ 9223372036854775807) = true := decide_eq_true c22
                        have c22b5 : ((rdOf ByteArray.empty y162 (ji2)).size + (1 + (x4_12.size + 1)) ≤ 9223372036854775807) = True := eq_true (by have q_ := of_decide_eq_true c22b1; (repeat rw [ByteArray.size_append] at q_); exact q_)
                        have c22b6 : decide ((rdOf ByteArray.empty y162 (ji2)).size + (1 + (x4_12.size + 1)) ≤ 9223372036854775807) = true := decide_eq_true (by have q_ := of_decide_eq_true c22b1; (repeat rw [ByteArray.size_append] at q_); exact q_)
                        try have c22b7 : (9223372036854775807 < (rdOf ByteArray.empty y162 (ji2)).size + (1 + (x4_12.size + 1))) = False := eq_false (Nat.not_lt.2 (by have q_ := of_decide_eq_true c22b1; (repeat rw [ByteArray.size_append] at q_); exact q_))
                        try have c22b2 : (9223372036854775807 < (rdOf ByteArray.empty y162 (ji2)).size + ((⟨#[43]⟩ : ByteArray) ++ (x4_12 ++ (⟨#[120]⟩ : ByteArray))).size) = False := eq_false (Nat.not_lt.2 c22)
                        obtain rfl := Option.some.inj H
                        have hcz23_0 : wc.cell? ⟨gb161, 0, none⟩ = some (.int .i64 a0_0) := (blk_cell BK161.out 0).trans rfl
                        have hcz23_1 : wc.cell? ⟨gb161, 1, none⟩ = some (.bool a0_1) := (blk_cell BK161.out 1).trans rfl
                        have hcz23_2 : wc.cell? ⟨gb161, 2, none⟩ = some (.bool a0_2) := (blk_cell BK161.out 2).trans rfl
                        have hcz23_3 : wc.cell? ⟨gb161, 3, none⟩ = some (.bool true) := (blk_cell BK161.out 3).trans rfl
                        have hfz23_0 := blk_frozen BK161.out 0
                        have hfz23_1 := blk_frozen BK161.out 1
                        have hfz23_2 := blk_frozen BK161.out 2
                        have hfz23_3 := blk_frozen BK161.out 3
                        go_wp2
                        go_ret
                        exact ⟨by first | rfl | (simp [errW_none, errW_some] <;> rfl) | (simp only [← hji2]; first | rfl | (simp [errW_none, errW_some] <;> rfl)) | (simp [*, errW_none, errW_some] <;> rfl), by repeat (first | (with_reducible first | exact HB.out | apply below_alloc | apply pw_below_drewN | apply below_drew1 | refine below_set ?_ GE161.out) | exact HB.out)⟩
                      · rw [if_neg c22] at H
                        exact absurd H (by simp)
                    · rw [if_neg c21] at H
                      exact absurd H (by simp)
                · rw [if_neg c18] at H
                  exact absurd H (by simp)
              · replace c17 := Bool.eq_false_iff.mpr c17
                subst c17
                have H1 : (if x4_12.toList = ([] : List UInt8) then (some (rdOf ByteArray.empty y162 (ji2))) else (if 1 + x4_12.size ≤ 9223372036854775807 then (if (rdOf ByteArray.empty y162 (ji2)).size + ((⟨#[43]⟩ : ByteArray) ++ x4_12).size ≤ 9223372036854775807 then (some ((rdOf ByteArray.empty y162 (ji2)) ++ ((⟨#[43]⟩ : ByteArray) ++ x4_12))) else (none)) else (none))) = some r := by rw [if_neg (show ¬ (false = true) by decide)] at H; exact H
                clear H
                have H := H1
                clear H1
                by_cases c24 : x4_12.toList = ([] : List UInt8)
                · rw [if_pos c24] at H
                  have c24b0 : (x4_12.toList == ([] : List UInt8)) = true := beq_iff_eq.mpr c24
                  have c24b1 : (x4_12.toList != ([] : List UInt8)) = false := bne_eq_false_iff_eq.mpr c24
                  clear c24
                  obtain rfl := Option.some.inj H
                  have hcz25_0 : wc.cell? ⟨gb161, 0, none⟩ = some (.int .i64 a0_0) := (blk_cell BK161.out 0).trans rfl
                  have hcz25_1 : wc.cell? ⟨gb161, 1, none⟩ = some (.bool a0_1) := (blk_cell BK161.out 1).trans rfl
                  have hcz25_2 : wc.cell? ⟨gb161, 2, none⟩ = some (.bool a0_2) := (blk_cell BK161.out 2).trans rfl
                  have hcz25_3 : wc.cell? ⟨gb161, 3, none⟩ = some (.bool false) := (blk_cell BK161.out 3).trans rfl
                  have hfz25_0 := blk_frozen BK161.out 0
                  have hfz25_1 := blk_frozen BK161.out 1
                  have hfz25_2 := blk_frozen BK161.out 2
                  have hfz25_3 := blk_frozen BK161.out 3
                  go_wp2
                  go_ret
                  exact ⟨by first | rfl | (simp [errW_none, errW_some] <;> rfl) | (simp only [← hji2]; first | rfl | (simp [errW_none, errW_some] <;> rfl)) | (simp [*, errW_none, errW_some] <;> rfl), by repeat (first | (with_reducible first | exact HB.out | apply below_alloc | apply pw_below_drewN | apply below_drew1 | refine below_set ?_ GE161.out) | exact HB.out)⟩
                · rw [if_neg c24] at H
                  have c24b0 : (x4_12.toList == ([] : List UInt8)) = false := beq_eq_false_iff_ne.mpr c24
                  have c24b1 : (x4_12.toList != ([] : List UInt8)) = true := bne_iff_ne.mpr c24
                  by_cases c26 : 1 + x4_12.size ≤ 9223372036854775807
                  · rw [if_pos c26] at H
                    have c26b0 := eq_true c26
                    have c26b1 : decide (1 + x4_12.size ≤ 9223372036854775807) = true := decide_eq_true c26
                    try have c26b2 : (9223372036854775807 < 1 + x4_12.size) = False := eq_false (Nat.not_lt.2 c26)
                    by_cases c27 : (rdOf ByteArray.empty y162 (ji2)).size + ((⟨#[43]⟩ : ByteArray) ++ x4_12).size ≤ 9223372036854775807
                    · rw [if_pos c27] at H
                      have c27b0 := eq_true c27
                      have c27b1 : decide ((rdOf ByteArray.empty y162 (ji2)).size + ((⟨#[43]⟩ : ByteArray) ++ x4_12).size ≤ 9223372036854775807) = true := decide_eq_true c27
                      have c27b5 : ((rdOf ByteArray.empty y162 (ji2)).size + (1 + x4_12.size) ≤ 9223372036854775807) = True := eq_true (by have q_ := of_decide_eq_true c27b1; (repeat rw [ByteArray.size_append] at q_); exact q_)
                      have c27b6 : decide ((rdOf ByteArray.empty y162 (ji2)).size + (1 + x4_12.size) ≤ 9223372036854775807) = true := decide_eq_true (by have q_ := of_decide_eq_true c27b1; (repeat rw [ByteArray.size_append] at q_); exact q_)
                      try have c27b7 : (9223372036854775807 < (rdOf ByteArray.empty y162 (ji2)).size + (1 + x4_12.size)) = False := eq_false (Nat.not_lt.2 (by have q_ := of_decide_eq_true c27b1; (repeat rw [ByteArray.size_append] at q_); exact q_))
                      try have c27b2 : (9223372036854775807 < (rdOf ByteArray.empty y162 (ji2)).size + ((⟨#[43]⟩ : ByteArray) ++ x4_12).size) = False := eq_false (Nat.not_lt.2 c27)
                      obtain rfl := Option.some.inj H
                      have hcz28_0 : wc.cell? ⟨gb161, 0, none⟩ = some (.int .i64 a0_0) := (blk_cell BK161.out 0).trans rfl
                      have hcz28_1 : wc.cell? ⟨gb161, 1, none⟩ = some (.bool a0_1) := (blk_cell BK161.out 1).trans rfl
                      have hcz28_2 : wc.cell? ⟨gb161, 2, none⟩ = some (.bool a0_2) := (blk_cell BK161.out 2).trans rfl
                      have hcz28_3 : wc.cell? ⟨gb161, 3, none⟩ = some (.bool false) := (blk_cell BK161.out 3).trans rfl
                      have hfz28_0 := blk_frozen BK161.out 0
                      have hfz28_1 := blk_frozen BK161.out 1
                      have hfz28_2 := blk_frozen BK161.out 2
                      have hfz28_3 := blk_frozen BK161.out 3
                      go_wp2
                      go_ret
                      exact ⟨by first | rfl | (simp [errW_none, errW_some] <;> rfl) | (simp only [← hji2]; first | rfl | (simp [errW_none, errW_some] <;> rfl)) | (simp [*, errW_none, errW_some] <;> rfl), by repeat (first | (with_reducible first | exact HB.out | apply below_alloc | apply pw_below_drewN | apply below_drew1 | refine below_set ?_ GE161.out) | exact HB.out)⟩
                    · rw [if_neg c27] at H
                      exact absurd H (by simp)
                  · rw [if_neg c26] at H
                    exact absurd H (by simp)
    · rw [if_neg c4] at H
      exact absurd H (by simp)
  · rw [if_neg c3] at H
    exact absurd H (by simp)

/-! ### stockyardlaw09_FiletypeFormats: function 3 -/
def stockyardlaw09_FiletypeFormats.j0 : Nat → ByteArray → Int → Bool → Int → Bool → Bool → Bool → Option (Bool)
  | 0, _, _, _, _, _, _, _ => none
  | k + 1, x3, x5, x21, x167000, x167001, x167002, x167003 => if x21 = true then (some false) else (if x5 = 0 then ((stockyardref09_Text.f k x167000 x167001 x167002 x167003).bind fun t171 => (if x3.toList = t171.toList then ((stockyardlaw09_awake.f k).bind fun t172 => (some t172)) else (some false))) else (if x3.toList = ([] : List UInt8) then ((stockyardlaw09_awake.f k).bind fun t173 => (some t173)) else (some false)))
def stockyardlaw09_FiletypeFormats.f (k : Nat) (a0_0 : Int) (a0_1 : Bool) (a0_2 : Bool) (a0_3 : Bool) : Option (Bool) := (filetype_Format.f a0_0 a0_1 a0_2 a0_3).bind fun bt167 => ((stockyardref09_Check.f a0_0 a0_1 a0_2 a0_3).bind fun t169 => (if bt167.2 = t169 then ((filetype_Check.f a0_0 a0_1 a0_2 a0_3).bind fun t170 => (stockyardlaw09_FiletypeFormats.j0 k bt167.1 t169 (t170 != t169) a0_0 a0_1 a0_2 a0_3)) else (stockyardlaw09_FiletypeFormats.j0 k bt167.1 t169 true a0_0 a0_1 a0_2 a0_3)))
theorem stockyardlaw09_FiletypeFormats.mono_l : ∀ k, (∀ y0 y1 y2 y3 y4 y5 y6, LeO (stockyardlaw09_FiletypeFormats.j0 k y0 y1 y2 y3 y4 y5 y6) (stockyardlaw09_FiletypeFormats.j0 (k + 1) y0 y1 y2 y3 y4 y5 y6))
  | 0 => fun _ _ _ _ _ _ _ r h => by simp [stockyardlaw09_FiletypeFormats.j0] at h
  | k + 1 => by
    have ih0 := stockyardlaw09_FiletypeFormats.mono_l k
    · intro y0 y1 y2 y3 y4 y5 y6
      unfold stockyardlaw09_FiletypeFormats.j0
      repeat' first
      | (with_reducible exact ih0 _ _ _ _ _ _ _)
      | (with_reducible exact stockyardlaw09_awake.mono _)
      | (with_reducible exact stockyardref09_Text.mono _ _ _ _ _)
      | (with_reducible exact LeO.refl _)
      | (with_reducible exact LeO.none _)
      | (with_reducible refine LeO.ite ?_ ?_)
      | (with_reducible refine LeO.bind ?_ (fun _ => ?_))
      | exact ih0 _ _ _ _ _ _ _
      | exact stockyardlaw09_awake.mono _
      | exact stockyardref09_Text.mono _ _ _ _ _
      | exact LeO.none _
      | refine LeO.ite ?_ ?_
      | refine LeO.bind ?_ (fun _ => ?_)
theorem stockyardlaw09_FiletypeFormats.mono : ∀ a0 a1 a2 a3 k, LeO (stockyardlaw09_FiletypeFormats.f k a0 a1 a2 a3) (stockyardlaw09_FiletypeFormats.f (k + 1) a0 a1 a2 a3) := by
  intro a0 a1 a2 a3 k
  have ih0 := stockyardlaw09_FiletypeFormats.mono_l k
  unfold stockyardlaw09_FiletypeFormats.f
  repeat' first
      | (with_reducible exact ih0 _ _ _ _ _ _ _)
      | (with_reducible exact stockyardlaw09_awake.mono _)
      | (with_reducible exact stockyardref09_Text.mono _ _ _ _ _)
      | (with_reducible exact LeO.refl _)
      | (with_reducible exact LeO.none _)
      | (with_reducible refine LeO.ite ?_ ?_)
      | (with_reducible refine LeO.bind ?_ (fun _ => ?_))
      | exact ih0 _ _ _ _ _ _ _
      | exact stockyardlaw09_awake.mono _
      | exact stockyardref09_Text.mono _ _ _ _ _
      | exact LeO.none _
      | refine LeO.ite ?_ ?_
      | refine LeO.bind ?_ (fun _ => ?_)
set_option maxHeartbeats 8000000 in
set_option maxRecDepth 100000 in
theorem stockyardlaw09_FiletypeFormats.calls (k : Nat) (a0_0 : Int) (a0_1 : Bool) (a0_2 : Bool) (a0_3 : Bool) (r : Bool) (w : World) (h : stockyardlaw09_FiletypeFormats.f k a0_0 a0_1 a0_2 a0_3 = some r) :
    Calls Tryd.prog 3 #[.agg #[.int .i64 a0_0, .bool a0_1, .bool a0_2, .bool a0_3]] w fun e w' => e = .returned (.bool r) ∧ Below w.heap.size w w' := by
  have hu23 := Tryd.underlying23
  have HB := Aside0.mk (Below.refl w.heap.size w)
  have H : ((filetype_Format.f a0_0 a0_1 a0_2 a0_3).bind fun bt167 => ((stockyardref09_Check.f a0_0 a0_1 a0_2 a0_3).bind fun t169 => (if bt167.2 = t169 then ((filetype_Check.f a0_0 a0_1 a0_2 a0_3).bind fun t170 => (stockyardlaw09_FiletypeFormats.j0 k bt167.1 t169 (t170 != t169) a0_0 a0_1 a0_2 a0_3)) else (stockyardlaw09_FiletypeFormats.j0 k bt167.1 t169 true a0_0 a0_1 a0_2 a0_3)))) = some r := h
  clear h
  replace H := Option.bind_eq_some_iff.mp H
  obtain ⟨⟨t167, t168⟩, A20, H⟩ := H
  replace H : ((stockyardref09_Check.f a0_0 a0_1 a0_2 a0_3).bind fun t169 => (if t168 = t169 then ((filetype_Check.f a0_0 a0_1 a0_2 a0_3).bind fun t170 => (stockyardlaw09_FiletypeFormats.j0 k t167 t169 (t170 != t169) a0_0 a0_1 a0_2 a0_3)) else (stockyardlaw09_FiletypeFormats.j0 k t167 t169 true a0_0 a0_1 a0_2 a0_3))) = some r := H
  have A2 := Aside0.mk A20
  clear A20
  replace H := Option.bind_eq_some_iff.mp H
  obtain ⟨t169, A30, H⟩ := H
  replace H : (if t168 = t169 then ((filetype_Check.f a0_0 a0_1 a0_2 a0_3).bind fun t170 => (stockyardlaw09_FiletypeFormats.j0 k t167 t169 (t170 != t169) a0_0 a0_1 a0_2 a0_3)) else (stockyardlaw09_FiletypeFormats.j0 k t167 t169 true a0_0 a0_1 a0_2 a0_3)) = some r := H
  have A3 := Aside0.mk A30
  clear A30
  have HC4 := Aside0.mk H
  clear H
  go_enter Tryd.func3, Tryd.ntmps3
  go_upto_region 3 with (first | ((with_reducible refine gate_dst (N := 1) rfl ?_); refine box_event ?hg (N := 1) ?hd (cs := #[.int .i64 a0_0, .bool a0_1, .bool a0_2, .bool a0_3]) (t := 23) ?hr ?_; (case hd => rfl); (case hg => rfl); (case hr => first | (go_simp; done) | (go_simp; rfl)); intro gb166 hg w5 hbox hb; have n0_ := Aside0.mk (below_step (by repeat (first | (with_reducible first | exact HB.out | apply below_alloc | apply pw_below_drewN | apply below_drew1) | exact HB.out)) hb); have n1_ := Aside0.mk (hbox); have n2_ := Aside0.mk ((by rw [hg]; exact (below_size (by repeat (first | (with_reducible first | exact HB.out | apply below_alloc | apply pw_below_drewN | apply below_drew1) | exact HB.out))) : w.heap.size ≤ gb166)); have n3_ := Aside0.mk ((by rw [hg]; exact (below_size (by repeat (first | (with_reducible first | exact HB.out | apply below_alloc | apply pw_below_drewN | apply below_drew1) | exact HB.out))) : w.heap.size ≤ gb166)); clear HB; have HB := n0_; have BK166 := n1_; have GW166 := n2_; have GE166 := n3_; clear n0_ n1_ n2_ n3_; clear hb hbox hg; have hcz6_0 : w5.cell? ⟨gb166, 0, none⟩ = some (.int .i64 a0_0) := (blk_cell BK166.out 0).trans rfl; have hcz6_1 : w5.cell? ⟨gb166, 1, none⟩ = some (.bool a0_1) := (blk_cell BK166.out 1).trans rfl; have hcz6_2 : w5.cell? ⟨gb166, 2, none⟩ = some (.bool a0_2) := (blk_cell BK166.out 2).trans rfl; have hcz6_3 : w5.cell? ⟨gb166, 3, none⟩ = some (.bool a0_3) := (blk_cell BK166.out 3).trans rfl; have hfz6_0 := blk_frozen BK166.out 0; have hfz6_1 := blk_frozen BK166.out 1; have hfz6_2 := blk_frozen BK166.out 2; have hfz6_3 := blk_frozen BK166.out 3) | ((with_reducible refine gate_callee (f := 13) rfl ?_); refine goesL_ (some 8) rfl rfl Tryd.func13 (by kernel_rfl) rfl #[.agg #[.int .i64 a0_0, .bool a0_1, .bool a0_2, .bool a0_3]] rfl (by (try simp only [List.map_toArray, List.map_cons, List.map_nil]); first | done | rfl | (simp only [List.length_drop, List.length_take]; rfl)) ?_; (with_reducible refine (filetype_Format.calls a0_0 a0_1 a0_2 a0_3 t167 t168 _ A2.out).mono ?_); rintro e w7 ⟨rfl, hb⟩; refine ⟨_, rfl, ?_⟩; have n0_ := Aside0.mk (blk_below (g := gb166) (o := .cells #[.int .i64 a0_0, .bool a0_1, .bool a0_2, .bool a0_3] 23 (0, 0)) (by (with_reducible repeat (first | refine blk_drewN ?_ _ | refine blk_drew ?_ | refine blk_alloc ?_ _)); exact BK166.out) hb); have n1_ := Aside0.mk (below_step (by repeat (first | (with_reducible first | exact HB.out | apply below_alloc | apply pw_below_drewN | apply below_drew1 | refine below_set ?_ GE166.out) | exact HB.out)) hb); clear BK166; clear HB; have BK166 := n0_; have HB := n1_; clear n0_ n1_; (try clear hb); (try clear hb2); (try clear hk); (try clear hi); have hcz8_0 : w7.cell? ⟨gb166, 0, none⟩ = some (.int .i64 a0_0) := (blk_cell BK166.out 0).trans rfl; have hcz8_1 : w7.cell? ⟨gb166, 1, none⟩ = some (.bool a0_1) := (blk_cell BK166.out 1).trans rfl; have hcz8_2 : w7.cell? ⟨gb166, 2, none⟩ = some (.bool a0_2) := (blk_cell BK166.out 2).trans rfl; have hcz8_3 : w7.cell? ⟨gb166, 3, none⟩ = some (.bool a0_3) := (blk_cell BK166.out 3).trans rfl; have hfz8_0 := blk_frozen BK166.out 0; have hfz8_1 := blk_frozen BK166.out 1; have hfz8_2 := blk_frozen BK166.out 2; have hfz8_3 := blk_frozen BK166.out 3) | ((with_reducible refine gate_callee (f := 14) rfl ?_); refine goesL_ (some 12) rfl rfl Tryd.func14 (by kernel_rfl) rfl #[.agg #[.int .i64 a0_0, .bool a0_1, .bool a0_2, .bool a0_3]] rfl (by (try simp only [List.map_toArray, List.map_cons, List.map_nil]); first | done | rfl | (simp only [List.length_drop, List.length_take]; rfl)) ?_; (with_reducible refine (stockyardref09_Check.calls a0_0 a0_1 a0_2 a0_3 t169 _ A3.out).mono ?_); rintro e w9 ⟨rfl, hb⟩; refine ⟨_, rfl, ?_⟩; have n0_ := Aside0.mk (blk_below (g := gb166) (o := .cells #[.int .i64 a0_0, .bool a0_1, .bool a0_2, .bool a0_3] 23 (0, 0)) (by (with_reducible repeat (first | refine blk_drewN ?_ _ | refine blk_drew ?_ | refine blk_alloc ?_ _)); exact BK166.out) hb); have n1_ := Aside0.mk (below_step (by repeat (first | (with_reducible first | exact HB.out | apply below_alloc | apply pw_below_drewN | apply below_drew1 | refine below_set ?_ GE166.out) | exact HB.out)) hb); clear BK166; clear HB; have BK166 := n0_; have HB := n1_; clear n0_ n1_; (try clear hb); (try clear hb2); (try clear hk); (try clear hi)))
  (try simp only [Act.put, List.setIfInBounds_toArray, List.set_cons_zero, List.set_cons_succ])
  go_cut [21] (fun v21 wc => ∃ (kq : Nat) (x21_3 : Bool), v21 = .bool x21_3 ∧ Aside0 (stockyardlaw09_FiletypeFormats.j0 kq t167 t169 x21_3 a0_0 a0_1 a0_2 a0_3 = some r) ∧ Aside0 (kq ≤ k) ∧ Aside0 (wc.heap[gb166]? = some (.cells #[.int .i64 a0_0, .bool a0_1, .bool a0_2, .bool a0_3] 23 (0, 0))) ∧ Aside0 (Below w.heap.size w wc))
  case first =>
    have H := HC4.out
    clear HC4
    by_cases c10 : t168 = t169
    · rw [if_pos c10] at H
      have c10b0 : (t168 == t169) = true := beq_iff_eq.mpr c10
      have c10b1 : (t168 != t169) = false := bne_eq_false_iff_eq.mpr c10
      clear c10
      (first | rw [c10b0] | (simp only [i64_w, i32_w]; rw [c10b0]) | skip)
      replace H := Option.bind_eq_some_iff.mp H
      obtain ⟨t170, A110, H⟩ := H
      replace H : (stockyardlaw09_FiletypeFormats.j0 k t167 t169 (t170 != t169) a0_0 a0_1 a0_2 a0_3) = some r := H
      have A11 := Aside0.mk A110
      clear A110
      have H' := Aside0.mk H
      clear H
      have hcz12_0 : w9.cell? ⟨gb166, 0, none⟩ = some (.int .i64 a0_0) := (blk_cell BK166.out 0).trans rfl
      have hcz12_1 : w9.cell? ⟨gb166, 1, none⟩ = some (.bool a0_1) := (blk_cell BK166.out 1).trans rfl
      have hcz12_2 : w9.cell? ⟨gb166, 2, none⟩ = some (.bool a0_2) := (blk_cell BK166.out 2).trans rfl
      have hcz12_3 : w9.cell? ⟨gb166, 3, none⟩ = some (.bool a0_3) := (blk_cell BK166.out 3).trans rfl
      have hfz12_0 := blk_frozen BK166.out 0
      have hfz12_1 := blk_frozen BK166.out 1
      have hfz12_2 := blk_frozen BK166.out 2
      have hfz12_3 := blk_frozen BK166.out 3
      go_wp2_with (first | (go_at_call 15; (with_reducible refine (filetype_Check.calls a0_0 a0_1 a0_2 a0_3 t170 _ A11.out).mono ?_); rintro e w13 ⟨rfl, hb⟩; have n0_ := Aside0.mk (blk_below (g := gb166) (o := .cells #[.int .i64 a0_0, .bool a0_1, .bool a0_2, .bool a0_3] 23 (0, 0)) (by (with_reducible repeat (first | refine blk_drewN ?_ _ | refine blk_drew ?_ | refine blk_alloc ?_ _)); exact BK166.out) hb); have n1_ := Aside0.mk (below_step (by repeat (first | (with_reducible first | exact HB.out | apply below_alloc | apply pw_below_drewN | apply below_drew1 | refine below_set ?_ GE166.out) | exact HB.out)) hb); clear BK166; clear HB; have BK166 := n0_; have HB := n1_; clear n0_ n1_; (try clear hb); (try clear hb2); (try clear hk); (try clear hi)))
      go_meet
      case rel => exact ⟨_, ((t170 != t169)), (by first | rfl | (simp; done) | (simp [*]; done)), H', ⟨by first | omega | exact Nat.le_refl _⟩, ⟨by (with_reducible repeat (first | refine blk_drewN ?_ _ | refine blk_drew ?_ | refine blk_alloc ?_ _)); exact BK166.out⟩, ⟨by repeat (first | (with_reducible first | exact HB.out | apply below_alloc | apply pw_below_drewN | apply below_drew1 | refine below_set ?_ GE166.out) | exact HB.out)⟩⟩
    · rw [if_neg c10] at H
      have c10b0 : (t168 == t169) = false := beq_eq_false_iff_ne.mpr c10
      have c10b1 : (t168 != t169) = true := bne_iff_ne.mpr c10
      (first | rw [c10b0] | (simp only [i64_w, i32_w]; rw [c10b0]) | skip)
      have H' := Aside0.mk H
      clear H
      go_wp2
      go_meet
      case rel => exact ⟨_, (true), (by first | rfl | (simp; done) | (simp [*]; done)), H', ⟨by first | omega | exact Nat.le_refl _⟩, ⟨by (with_reducible repeat (first | refine blk_drewN ?_ _ | refine blk_drew ?_ | refine blk_alloc ?_ _)); exact BK166.out⟩, ⟨by repeat (first | (with_reducible first | exact HB.out | apply below_alloc | apply pw_below_drewN | apply below_drew1 | refine below_set ?_ GE166.out) | exact HB.out)⟩⟩
  case rest =>
    clear HC4
    try clear c1
    try clear p2
    try clear c3
    try clear c10
    try clear c10b0
    try clear c10b1
    try clear c13
    try clear hcz12_0
    try clear hcz12_1
    try clear hcz12_2
    try clear hcz12_3
    try clear hcz6_0
    try clear hcz6_1
    try clear hcz6_2
    try clear hcz6_3
    try clear hcz8_0
    try clear hcz8_1
    try clear hcz8_2
    try clear hcz8_3
    try clear hfz12_0
    try clear hfz12_1
    try clear hfz12_2
    try clear hfz12_3
    try clear hfz6_0
    try clear hfz6_1
    try clear hfz6_2
    try clear hfz6_3
    try clear hfz8_0
    try clear hfz8_1
    try clear hfz8_2
    try clear hfz8_3
    obtain ⟨kq, x21_3, rfl, HA, HJ3, BK166, HB⟩ := hcut
    cases kq with
    | zero => exact absurd HA.out (by simp [stockyardlaw09_FiletypeFormats.j0])
    | succ kj3 =>
      have H := HA.out
      clear HA
      simp only [stockyardlaw09_FiletypeFormats.j0] at H
      by_cases c14 : x21_3 = true
      · subst c14
        have H1 : (some false) = some r := by rw [if_pos rfl] at H; exact H
        clear H
        have H := H1
        clear H1
        obtain rfl := Option.some.inj H
        go_wp2
        go_ret
        exact ⟨by first | rfl | (simp [errW_none, errW_some] <;> rfl) | (simp [*, errW_none, errW_some] <;> rfl), by repeat (first | (with_reducible first | exact HB.out | apply below_alloc | apply pw_below_drewN | apply below_drew1 | refine below_set ?_ GE166.out) | exact HB.out)⟩
      · replace c14 := Bool.eq_false_iff.mpr c14
        subst c14
        have H1 : (if t169 = 0 then ((stockyardref09_Text.f kj3 a0_0 a0_1 a0_2 a0_3).bind fun t171 => (if t167.toList = t171.toList then ((stockyardlaw09_awake.f kj3).bind fun t172 => (some t172)) else (some false))) else (if t167.toList = ([] : List UInt8) then ((stockyardlaw09_awake.f kj3).bind fun t173 => (some t173)) else (some false))) = some r := by rw [if_neg (show ¬ (false = true) by decide)] at H; exact H
        clear H
        have H := H1
        clear H1
        by_cases c15 : t169 = 0
        · rw [if_pos c15] at H
          have c15b0 : (t169 == 0) = true := beq_iff_eq.mpr c15
          have c15b1 : (t169 != 0) = false := bne_eq_false_iff_eq.mpr c15
          clear c15
          replace H := Option.bind_eq_some_iff.mp H
          obtain ⟨t171, A160, H⟩ := H
          replace H : (if t167.toList = t171.toList then ((stockyardlaw09_awake.f kj3).bind fun t172 => (some t172)) else (some false)) = some r := H
          have A16 := Aside0.mk A160
          clear A160
          by_cases c17 : t167.toList = t171.toList
          · rw [if_pos c17] at H
            have c17b0 : (t167.toList == t171.toList) = true := beq_iff_eq.mpr c17
            have c17b1 : (t167.toList != t171.toList) = false := bne_eq_false_iff_eq.mpr c17
            clear c17
            replace H := Option.bind_eq_some_iff.mp H
            obtain ⟨t172, A180, H⟩ := H
            replace H : (some t172) = some r := H
            have A18 := Aside0.mk A180
            clear A180
            obtain rfl := Option.some.inj H
            have hcz19_0 : wc.cell? ⟨gb166, 0, none⟩ = some (.int .i64 a0_0) := (blk_cell BK166.out 0).trans rfl
            have hcz19_1 : wc.cell? ⟨gb166, 1, none⟩ = some (.bool a0_1) := (blk_cell BK166.out 1).trans rfl
            have hcz19_2 : wc.cell? ⟨gb166, 2, none⟩ = some (.bool a0_2) := (blk_cell BK166.out 2).trans rfl
            have hcz19_3 : wc.cell? ⟨gb166, 3, none⟩ = some (.bool a0_3) := (blk_cell BK166.out 3).trans rfl
            have hfz19_0 := blk_frozen BK166.out 0
            have hfz19_1 := blk_frozen BK166.out 1
            have hfz19_2 := blk_frozen BK166.out 2
            have hfz19_3 := blk_frozen BK166.out 3
            go_wp2_with (first | ((with_reducible refine gate_callee (f := 17) rfl ?_); refine goesL_ (some 31) rfl rfl Tryd.func17 (by kernel_rfl) rfl #[.agg #[.int .i64 a0_0, .bool a0_1, .bool a0_2, .bool a0_3]] rfl (by (try simp only [List.map_toArray, List.map_cons, List.map_nil]); first | done | rfl | (simp only [List.length_drop, List.length_take]; rfl)) ?_; (with_reducible refine (stockyardref09_Text.calls kj3 a0_0 a0_1 a0_2 a0_3 t171 _ A16.out).mono ?_); rintro e w20 ⟨rfl, hb⟩; refine ⟨_, rfl, ?_⟩; have n0_ := Aside0.mk (blk_below (g := gb166) (o := .cells #[.int .i64 a0_0, .bool a0_1, .bool a0_2, .bool a0_3] 23 (0, 0)) (by (with_reducible repeat (first | refine blk_drewN ?_ _ | refine blk_drew ?_ | refine blk_alloc ?_ _)); exact BK166.out) hb); have n1_ := Aside0.mk (below_step (by repeat (first | (with_reducible first | exact HB.out | apply below_alloc | apply pw_below_drewN | apply below_drew1 | refine below_set ?_ GE166.out) | exact HB.out)) hb); clear BK166; clear HB; have BK166 := n0_; have HB := n1_; clear n0_ n1_; (try clear hb); (try clear hb2); (try clear hk); (try clear hi)) | (go_at_call 16; (with_reducible refine (stockyardlaw09_awake.calls kj3  t172 _ A18.out).mono ?_); rintro e w21 ⟨rfl, hb⟩; have n0_ := Aside0.mk (blk_below (g := gb166) (o := .cells #[.int .i64 a0_0, .bool a0_1, .bool a0_2, .bool a0_3] 23 (0, 0)) (by (with_reducible repeat (first | refine blk_drewN ?_ _ | refine blk_drew ?_ | refine blk_alloc ?_ _)); exact BK166.out) hb); have n1_ := Aside0.mk (below_step (by repeat (first | (with_reducible first | exact HB.out | apply below_alloc | apply pw_below_drewN | apply below_drew1 | refine below_set ?_ GE166.out) | exact HB.out)) hb); clear BK166; clear HB; have BK166 := n0_; have HB := n1_; clear n0_ n1_; (try clear hb); (try clear hb2); (try clear hk); (try clear hi)))
            go_ret
            exact ⟨by first | rfl | (simp [errW_none, errW_some] <;> rfl) | (simp [*, errW_none, errW_some] <;> rfl), by repeat (first | (with_reducible first | exact HB.out | apply below_alloc | apply pw_below_drewN | apply below_drew1 | refine below_set ?_ GE166.out) | exact HB.out)⟩
          · rw [if_neg c17] at H
            have c17b0 : (t167.toList == t171.toList) = false := beq_eq_false_iff_ne.mpr c17
            have c17b1 : (t167.toList != t171.toList) = true := bne_iff_ne.mpr c17
            obtain rfl := Option.some.inj H
            have hcz22_0 : wc.cell? ⟨gb166, 0, none⟩ = some (.int .i64 a0_0) := (blk_cell BK166.out 0).trans rfl
            have hcz22_1 : wc.cell? ⟨gb166, 1, none⟩ = some (.bool a0_1) := (blk_cell BK166.out 1).trans rfl
            have hcz22_2 : wc.cell? ⟨gb166, 2, none⟩ = some (.bool a0_2) := (blk_cell BK166.out 2).trans rfl
            have hcz22_3 : wc.cell? ⟨gb166, 3, none⟩ = some (.bool a0_3) := (blk_cell BK166.out 3).trans rfl
            have hfz22_0 := blk_frozen BK166.out 0
            have hfz22_1 := blk_frozen BK166.out 1
            have hfz22_2 := blk_frozen BK166.out 2
            have hfz22_3 := blk_frozen BK166.out 3
            go_wp2_with (first | ((with_reducible refine gate_callee (f := 17) rfl ?_); refine goesL_ (some 31) rfl rfl Tryd.func17 (by kernel_rfl) rfl #[.agg #[.int .i64 a0_0, .bool a0_1, .bool a0_2, .bool a0_3]] rfl (by (try simp only [List.map_toArray, List.map_cons, List.map_nil]); first | done | rfl | (simp only [List.length_drop, List.length_take]; rfl)) ?_; (with_reducible refine (stockyardref09_Text.calls kj3 a0_0 a0_1 a0_2 a0_3 t171 _ A16.out).mono ?_); rintro e w23 ⟨rfl, hb⟩; refine ⟨_, rfl, ?_⟩; have n0_ := Aside0.mk (blk_below (g := gb166) (o := .cells #[.int .i64 a0_0, .bool a0_1, .bool a0_2, .bool a0_3] 23 (0, 0)) (by (with_reducible repeat (first | refine blk_drewN ?_ _ | refine blk_drew ?_ | refine blk_alloc ?_ _)); exact BK166.out) hb); have n1_ := Aside0.mk (below_step (by repeat (first | (with_reducible first | exact HB.out | apply below_alloc | apply pw_below_drewN | apply below_drew1 | refine below_set ?_ GE166.out) | exact HB.out)) hb); clear BK166; clear HB; have BK166 := n0_; have HB := n1_; clear n0_ n1_; (try clear hb); (try clear hb2); (try clear hk); (try clear hi)))
            go_ret
            exact ⟨by first | rfl | (simp [errW_none, errW_some] <;> rfl) | (simp [*, errW_none, errW_some] <;> rfl), by repeat (first | (with_reducible first | exact HB.out | apply below_alloc | apply pw_below_drewN | apply below_drew1 | refine below_set ?_ GE166.out) | exact HB.out)⟩
        · rw [if_neg c15] at H
          have c15b0 : (t169 == 0) = false := beq_eq_false_iff_ne.mpr c15
          have c15b1 : (t169 != 0) = true := bne_iff_ne.mpr c15
          by_cases c24 : t167.toList = ([] : List UInt8)
          · rw [if_pos c24] at H
            have c24b0 : (t167.toList == ([] : List UInt8)) = true := beq_iff_eq.mpr c24
            have c24b1 : (t167.toList != ([] : List UInt8)) = false := bne_eq_false_iff_eq.mpr c24
            clear c24
            replace H := Option.bind_eq_some_iff.mp H
            obtain ⟨t173, A250, H⟩ := H
            replace H : (some t173) = some r := H
            have A25 := Aside0.mk A250
            clear A250
            obtain rfl := Option.some.inj H
            go_wp2_with (first | (go_at_call 16; (with_reducible refine (stockyardlaw09_awake.calls kj3  t173 _ A25.out).mono ?_); rintro e w26 ⟨rfl, hb⟩; have n0_ := Aside0.mk (blk_below (g := gb166) (o := .cells #[.int .i64 a0_0, .bool a0_1, .bool a0_2, .bool a0_3] 23 (0, 0)) (by (with_reducible repeat (first | refine blk_drewN ?_ _ | refine blk_drew ?_ | refine blk_alloc ?_ _)); exact BK166.out) hb); have n1_ := Aside0.mk (below_step (by repeat (first | (with_reducible first | exact HB.out | apply below_alloc | apply pw_below_drewN | apply below_drew1 | refine below_set ?_ GE166.out) | exact HB.out)) hb); clear BK166; clear HB; have BK166 := n0_; have HB := n1_; clear n0_ n1_; (try clear hb); (try clear hb2); (try clear hk); (try clear hi)))
            go_ret
            exact ⟨by first | rfl | (simp [errW_none, errW_some] <;> rfl) | (simp [*, errW_none, errW_some] <;> rfl), by repeat (first | (with_reducible first | exact HB.out | apply below_alloc | apply pw_below_drewN | apply below_drew1 | refine below_set ?_ GE166.out) | exact HB.out)⟩
          · rw [if_neg c24] at H
            have c24b0 : (t167.toList == ([] : List UInt8)) = false := beq_eq_false_iff_ne.mpr c24
            have c24b1 : (t167.toList != ([] : List UInt8)) = true := bne_iff_ne.mpr c24
            obtain rfl := Option.some.inj H
            go_wp2
            go_ret
            exact ⟨by first | rfl | (simp [errW_none, errW_some] <;> rfl) | (simp [*, errW_none, errW_some] <;> rfl), by repeat (first | (with_reducible first | exact HB.out | apply below_alloc | apply pw_below_drewN | apply below_drew1 | refine below_set ?_ GE166.out) | exact HB.out)⟩

/-! ### stockyardref09_All: function 20 -/
mutual
def stockyardref09_All.l0 : Nat → List (S23) → Int → Option ((List (S23)))
  | 0, _, _ => none
  | k + 1, x1, x2 => if x2 ≤ 3 then (stockyardref09_All.l1 k x1 x2 0) else (some x1)
def stockyardref09_All.l1 : Nat → List (S23) → Int → Int → Option ((List (S23)))
  | 0, _, _, _ => none
  | k + 1, x1, x2, x3 => if x3 < 8 then ((stockyardref09_Check.f x2 (decide ((Go.bits .and .i64 x3 1) > 0)) (decide ((Go.bits .and .i64 x3 2) > 0)) (decide ((Go.bits .and .i64 x3 4) > 0))).bind fun t175 => (if t175 = 0 then (if x1.length < 8796093022208 then (stockyardref09_All.l1 k (x1 ++ [(⟨x2, decide ((Go.bits .and .i64 x3 1) > 0), decide ((Go.bits .and .i64 x3 2) > 0), decide ((Go.bits .and .i64 x3 4) > 0)⟩ : S23)]) x2 (wrap64 (x3 + 1))) else (none)) else (stockyardref09_All.l1 k x1 x2 (wrap64 (x3 + 1))))) else (stockyardref09_All.l0 k x1 (wrap64 (x2 + 1)))
end
def stockyardref09_All.f (k : Nat)  : Option ((List (S23))) := stockyardref09_All.l0 k ([] : List (S23)) 1
theorem stockyardref09_All.mono_l : ∀ k, (∀ y0 y1, LeO (stockyardref09_All.l0 k y0 y1) (stockyardref09_All.l0 (k + 1) y0 y1)) ∧ (∀ y0 y1 y2, LeO (stockyardref09_All.l1 k y0 y1 y2) (stockyardref09_All.l1 (k + 1) y0 y1 y2))
  | 0 => ⟨fun _ _ r h => by simp [stockyardref09_All.l0] at h, fun _ _ _ r h => by simp [stockyardref09_All.l1] at h⟩
  | k + 1 => by
    obtain ⟨ih0, ih1⟩ := stockyardref09_All.mono_l k
    refine ⟨?_, ?_⟩
    · intro y0 y1
      unfold stockyardref09_All.l0
      repeat' first
      | (with_reducible exact ih0 _ _)
      | (with_reducible exact ih1 _ _ _)
      | (with_reducible exact LeO.refl _)
      | (with_reducible exact LeO.none _)
      | (with_reducible refine LeO.ite ?_ ?_)
      | (with_reducible refine LeO.bind ?_ (fun _ => ?_))
      | exact ih0 _ _
      | exact ih1 _ _ _
      | exact LeO.none _
      | refine LeO.ite ?_ ?_
      | refine LeO.bind ?_ (fun _ => ?_)
    · intro y0 y1 y2
      unfold stockyardref09_All.l1
      repeat' first
      | (with_reducible exact ih0 _ _)
      | (with_reducible exact ih1 _ _ _)
      | (with_reducible exact LeO.refl _)
      | (with_reducible exact LeO.none _)
      | (with_reducible refine LeO.ite ?_ ?_)
      | (with_reducible refine LeO.bind ?_ (fun _ => ?_))
      | exact ih0 _ _
      | exact ih1 _ _ _
      | exact LeO.none _
      | refine LeO.ite ?_ ?_
      | refine LeO.bind ?_ (fun _ => ?_)
theorem stockyardref09_All.mono : ∀ k, LeO (stockyardref09_All.f k ) (stockyardref09_All.f (k + 1) ) := by
  intro  k
  obtain ⟨ih0, ih1⟩ := stockyardref09_All.mono_l k
  unfold stockyardref09_All.f
  repeat' first
      | (with_reducible exact ih0 _ _)
      | (with_reducible exact ih1 _ _ _)
      | (with_reducible exact LeO.refl _)
      | (with_reducible exact LeO.none _)
      | (with_reducible refine LeO.ite ?_ ?_)
      | (with_reducible refine LeO.bind ?_ (fun _ => ?_))
      | exact ih0 _ _
      | exact ih1 _ _ _
      | exact LeO.none _
      | refine LeO.ite ?_ ?_
      | refine LeO.bind ?_ (fun _ => ?_)
set_option maxHeartbeats 8000000 in
set_option maxRecDepth 100000 in
theorem stockyardref09_All.calls (k : Nat)  (r : List (S23)) (w : World) (h : stockyardref09_All.f k  = some r) :
    Calls Tryd.prog 20 #[] w fun e w' => ∃ v0_ : Value, e = .returned (v0_) ∧ Kd.R k23 23 w' w.heap.size (fun _ => True) v0_ r ∧ Below w.heap.size w w' := by
  have hu23 := Tryd.underlying23
  have HB := Aside0.mk (Below.refl w.heap.size w)
  have H : (stockyardref09_All.l0 k ([] : List (S23)) 1) = some r := h
  clear h
  have H' := Aside0.mk H
  clear H
  go_enter Tryd.func20, Tryd.ntmps20
  go_wp2
  go_loopg [1, 2] k (fun kq v1 v2 w' => ∃ (x1_1 : List (S23)) (x2_1 : Int), v2 = .int .i64 x2_1 ∧ Aside0 (stockyardref09_All.l0 kq x1_1 x2_1 = some r) ∧ Aside0 (kq ≤ k) ∧ Aside0 (Kd.R k23 23 w' w.heap.size (fun _ => True) v1 x1_1) ∧ Aside0 (Below w.heap.size w w'))
  case atStart => exact ⟨(([] : List (S23))), (1), (by first | rfl | (simp; done) | (simp [*]; done)), H', ⟨Nat.le_refl _⟩, ⟨by first | exact Kd.R_nil _ _ _ _ _ | exact Kd.N_nil _ _ _ _ _ | exact Kd.V_nil _ _ _ _ _ | exact Kd.Q_nil _ _ _ _ _ | exact Kd.S_nil _ _ _ _ _⟩, ⟨by repeat (first | (with_reducible first | exact HB.out | apply below_alloc | apply pw_below_drewN | apply below_drew1) | exact HB.out)⟩⟩
  case round =>
    clear H'
    obtain ⟨x1_1, x2_1, rfl, HA, HK1, HO_1, HB⟩ := hrel
    cases gk with
    | zero => exact absurd HA.out (by simp [stockyardref09_All.l0])
    | succ k1 =>
      have H := HA.out
      clear HA
      simp only [stockyardref09_All.l0] at H
      by_cases c1 : x2_1 ≤ 3
      · rw [if_pos c1] at H
        have c1b0 : decide (x2_1 ≤ 3) = true := decide_eq_true c1
        clear c1
        have H' := Aside0.mk H
        clear H
        go_wp2
        go_loopg [1, 3] k1 (fun kq v1 v3 w' => ∃ (x1_2 : List (S23)) (x3_2 : Int), v3 = .int .i64 x3_2 ∧ Aside0 (stockyardref09_All.l1 kq x1_2 x2_1 x3_2 = some r) ∧ Aside0 (kq ≤ k1) ∧ Aside0 (Kd.R k23 23 w' w.heap.size (fun _ => True) v1 x1_2) ∧ Aside0 (Below w.heap.size w w'))
        case atStart => exact ⟨(x1_1), (0), (by first | rfl | (simp; done) | (simp [*]; done)), H', ⟨Nat.le_refl _⟩, ⟨by (with_reducible repeat (first | apply Kd.R_alloc | apply Kd.R_drewN | apply Kd.R_drew)); exact HO_1.out⟩, ⟨by repeat (first | (with_reducible first | exact HB.out | apply below_alloc | apply pw_below_drewN | apply below_drew1) | exact HB.out)⟩⟩
        case round =>
          clear H'
          try clear c1
          try clear c1b0
          obtain ⟨x1_2, x3_2, rfl, HA, HK2, HO_1, HB⟩ := hrel
          cases gk with
          | zero => exact absurd HA.out (by simp [stockyardref09_All.l1])
          | succ k2 =>
            have H := HA.out
            clear HA
            simp only [stockyardref09_All.l1] at H
            by_cases c2 : x3_2 < 8
            · rw [if_pos c2] at H
              have c2b0 : decide (x3_2 < 8) = true := decide_eq_true c2
              clear c2
              replace H := Option.bind_eq_some_iff.mp H
              obtain ⟨t175, A30, H⟩ := H
              replace H : (if t175 = 0 then (if x1_2.length < 8796093022208 then (stockyardref09_All.l1 k2 (x1_2 ++ [(⟨x2_1, decide ((Go.bits .and .i64 x3_2 1) > 0), decide ((Go.bits .and .i64 x3_2 2) > 0), decide ((Go.bits .and .i64 x3_2 4) > 0)⟩ : S23)]) x2_1 (wrap64 (x3_2 + 1))) else (none)) else (stockyardref09_All.l1 k2 x1_2 x2_1 (wrap64 (x3_2 + 1)))) = some r := H
              have A3 := Aside0.mk A30
              clear A30
              by_cases c4 : t175 = 0
              · rw [if_pos c4] at H
                have c4b0 : (t175 == 0) = true := beq_iff_eq.mpr c4
                have c4b1 : (t175 != 0) = false := bne_eq_false_iff_eq.mpr c4
                clear c4
                by_cases c5 : x1_2.length < 8796093022208
                · rw [if_pos c5] at H
                  have LMc5 := Aside0.mk c5
                  clear c5
                  obtain ⟨y176, hy176⟩ : ∃ y_ : List (S23), y_ = (x1_2 ++ [(⟨x2_1, decide ((Go.bits .and .i64 x3_2 1) > 0), decide ((Go.bits .and .i64 x3_2 2) > 0), decide ((Go.bits .and .i64 x3_2 4) > 0)⟩ : S23)]) := ⟨_, rfl⟩
                  replace H : (stockyardref09_All.l1 k2 y176 x2_1 (wrap64 (x3_2 + 1))) = some r := by first | (rw [hy176]; with_reducible exact H) | (have H2_ := (Option.bind_some _ _).symm.trans H; rw [hy176]; with_reducible exact H2_) | (have H2_ := (Option.bind_some _ _).symm.trans H; with_reducible exact H2_) | with_reducible exact H | (rw [hy176]; exact H) | exact H
                  have Ny176 := Aside0.mk hy176
                  clear hy176
                  have H' := Aside0.mk H
                  clear H
                  go_wp2_with (first | ((with_reducible refine gate_dst (N := 4) rfl ?_); refine box_event ?hg (N := 4) ?hd (cs := #[.int .i64 0, .bool false, .bool false, .bool false]) (t := 23) ?hr ?_; (case hd => rfl); (case hg => rfl); (case hr => first | (go_simp; done) | (go_simp; rfl)); intro gb174 hg w6 hbox hb; have n0_ := Aside0.mk (Kd.R_below (Kd.R_elderB (by (with_reducible repeat (first | apply Kd.R_alloc | apply Kd.R_drewN | apply Kd.R_drew)); exact HO_1.out) gb174 (Nat.le_of_eq hg.symm)) hb); have n1_ := Aside0.mk (below_step (by repeat (first | (with_reducible first | exact HB.out | apply below_alloc | apply pw_below_drewN | apply below_drew1) | exact HB.out)) hb); have n2_ := Aside0.mk (hbox); have n3_ := Aside0.mk ((by rw [hg]; exact (below_size (by repeat (first | (with_reducible first | exact HB.out | apply below_alloc | apply pw_below_drewN | apply below_drew1) | exact HB.out))) : w.heap.size ≤ gb174)); have n4_ := Aside0.mk ((by rw [hg]; exact (below_size (by repeat (first | (with_reducible first | exact HB.out | apply below_alloc | apply pw_below_drewN | apply below_drew1) | exact HB.out))) : w.heap.size ≤ gb174)); clear HO_1; clear HB; have HO_1 := n0_; have HB := n1_; have BK174 := n2_; have GW174 := n3_; have GE174 := n4_; clear n0_ n1_ n2_ n3_ n4_; clear hb hbox hg; have hcz7_0 : w6.cell? ⟨gb174, 0, none⟩ = some (.int .i64 0) := (blk_cell BK174.out 0).trans rfl; have hcz7_1 : w6.cell? ⟨gb174, 1, none⟩ = some (.bool false) := (blk_cell BK174.out 1).trans rfl; have hcz7_2 : w6.cell? ⟨gb174, 2, none⟩ = some (.bool false) := (blk_cell BK174.out 2).trans rfl; have hcz7_3 : w6.cell? ⟨gb174, 3, none⟩ = some (.bool false) := (blk_cell BK174.out 3).trans rfl; have hfz7_0 := blk_frozen BK174.out 0; have hfz7_1 := blk_frozen BK174.out 1; have hfz7_2 := blk_frozen BK174.out 2; have hfz7_3 := blk_frozen BK174.out 3) | ((with_reducible refine gate_callee (f := 14) rfl ?_); refine goesL_ (some 25) rfl rfl Tryd.func14 (by kernel_rfl) rfl #[.agg #[.int .i64 x2_1, .bool (decide ((Go.bits .and .i64 x3_2 1) > 0)), .bool (decide ((Go.bits .and .i64 x3_2 2) > 0)), .bool (decide ((Go.bits .and .i64 x3_2 4) > 0))]] rfl (by (try simp only [List.map_toArray, List.map_cons, List.map_nil]); first | done | rfl | (simp only [List.length_drop, List.length_take]; rfl)) ?_; (with_reducible refine (stockyardref09_Check.calls x2_1 (decide ((Go.bits .and .i64 x3_2 1) > 0)) (decide ((Go.bits .and .i64 x3_2 2) > 0)) (decide ((Go.bits .and .i64 x3_2 4) > 0)) t175 _ A3.out).mono ?_); rintro e w8 ⟨rfl, hb⟩; refine ⟨_, rfl, ?_⟩; have n0_ := Aside0.mk (Kd.R_below (by (with_reducible repeat (first | apply Kd.R_alloc | apply Kd.R_drewN | apply Kd.R_drew)); exact (Kd.R_mono (Kd.R_far (p := ⟨gb174, 3, none⟩) (Kd.R_far (p := ⟨gb174, 2, none⟩) (Kd.R_far (p := ⟨gb174, 1, none⟩) (Kd.R_far (p := ⟨gb174, 0, none⟩) (Kd.R_mono HO_1.out (fun k_ hk => (⟨hk, hk.2⟩ : _ ∧ k_ ≠ gb174))) (fun _ hk => hk.2) (.int .i64 x2_1)) (fun _ hk => hk.2) (.bool (decide ((Go.bits .and .i64 x3_2 1) > 0)))) (fun _ hk => hk.2) (.bool (decide ((Go.bits .and .i64 x3_2 2) > 0)))) (fun _ hk => hk.2) (.bool (decide ((Go.bits .and .i64 x3_2 4) > 0)))) (fun _ h_ => h_.1))) hb); have n1_ := Aside0.mk (blk_below (g := gb174) (o := .cells #[.int .i64 x2_1, .bool (decide ((Go.bits .and .i64 x3_2 1) > 0)), .bool (decide ((Go.bits .and .i64 x3_2 2) > 0)), .bool (decide ((Go.bits .and .i64 x3_2 4) > 0))] 23 (0, 0)) (by (with_reducible repeat (first | refine blk_drewN ?_ _ | refine blk_drew ?_ | refine blk_alloc ?_ _)); refine blk_put (cs := #[.int .i64 x2_1, .bool (decide ((Go.bits .and .i64 x3_2 1) > 0)), .bool (decide ((Go.bits .and .i64 x3_2 2) > 0)), .bool false]) ?_ 3 _ rfl; (with_reducible repeat (first | refine blk_drewN ?_ _ | refine blk_drew ?_ | refine blk_alloc ?_ _)); refine blk_put (cs := #[.int .i64 x2_1, .bool (decide ((Go.bits .and .i64 x3_2 1) > 0)), .bool false, .bool false]) ?_ 2 _ rfl; (with_reducible repeat (first | refine blk_drewN ?_ _ | refine blk_drew ?_ | refine blk_alloc ?_ _)); refine blk_put (cs := #[.int .i64 x2_1, .bool false, .bool false, .bool false]) ?_ 1 _ rfl; (with_reducible repeat (first | refine blk_drewN ?_ _ | refine blk_drew ?_ | refine blk_alloc ?_ _)); refine blk_put (cs := #[.int .i64 0, .bool false, .bool false, .bool false]) ?_ 0 _ rfl; (with_reducible repeat (first | refine blk_drewN ?_ _ | refine blk_drew ?_ | refine blk_alloc ?_ _)); exact BK174.out) hb); have n2_ := Aside0.mk (below_step (by repeat (first | (with_reducible first | exact HB.out | apply below_alloc | apply pw_below_drewN | apply below_drew1 | refine below_set ?_ GE174.out) | exact HB.out)) hb); clear HO_1; clear BK174; clear HB; have HO_1 := n0_; have BK174 := n1_; have HB := n2_; clear n0_ n1_ n2_; (try clear hb); (try clear hb2); (try clear hk); (try clear hi); have hcz9_0 : w8.cell? ⟨gb174, 0, none⟩ = some (.int .i64 x2_1) := (blk_cell BK174.out 0).trans rfl; have hcz9_1 : w8.cell? ⟨gb174, 1, none⟩ = some (.bool (decide ((Go.bits .and .i64 x3_2 1) > 0))) := (blk_cell BK174.out 1).trans rfl; have hcz9_2 : w8.cell? ⟨gb174, 2, none⟩ = some (.bool (decide ((Go.bits .and .i64 x3_2 2) > 0))) := (blk_cell BK174.out 2).trans rfl; have hcz9_3 : w8.cell? ⟨gb174, 3, none⟩ = some (.bool (decide ((Go.bits .and .i64 x3_2 4) > 0))) := (blk_cell BK174.out 3).trans rfl; have hfz9_0 := blk_frozen BK174.out 0; have hfz9_1 := blk_frozen BK174.out 1; have hfz9_2 := blk_frozen BK174.out 2; have hfz9_3 := blk_frozen BK174.out 3) | ((with_reducible refine gate_builtin (b := .append) (xs := #[.tmp 27, .tmp 29]) rfl ?_); at_builtin; refine Kd.R_append k23 (w0 := w) w.heap.size rfl (.tmp 27) (.tmp 29) 35 23 (.agg #[(.int .i64 0), (.bool false), (.bool false), (.bool false)]) 16 rfl Tryd.underlying35 info23 rfl (by decide) (by omega) u1 x1_2 (⟨x2_1, decide ((Go.bits .and .i64 x3_2 1) > 0), decide ((Go.bits .and .i64 x3_2 2) > 0), decide ((Go.bits .and .i64 x3_2 4) > 0)⟩ : S23) [.int .i64 x2_1, .bool (decide ((Go.bits .and .i64 x3_2 1) > 0)), .bool (decide ((Go.bits .and .i64 x3_2 2) > 0)), .bool (decide ((Go.bits .and .i64 x3_2 4) > 0))] (fun k_ => k_ ≠ gb174) (fun _ => False) rfl rfl ?aP (fun _ hk => hk.elim) ?aF ?aO ?aB ?aS ?aL ?_; (case aP => exact k23_mkM _ _ _ (⟨x2_1, decide ((Go.bits .and .i64 x3_2 1) > 0), decide ((Go.bits .and .i64 x3_2 2) > 0), decide ((Go.bits .and .i64 x3_2 4) > 0)⟩ : S23)); (case aB => exact (by repeat (first | (with_reducible first | exact HB.out | apply below_alloc | apply pw_below_drewN | apply below_drew1 | refine below_set ?_ GE174.out) | exact HB.out))); (case aF => exact (fun k_ hk => Kd.freshB (g := gb174) (o := .cells #[.int .i64 x2_1, .bool (decide ((Go.bits .and .i64 x3_2 1) > 0)), .bool (decide ((Go.bits .and .i64 x3_2 2) > 0)), .bool (decide ((Go.bits .and .i64 x3_2 4) > 0))] 23 (0, 0)) (by (with_reducible repeat (first | refine blk_drewN ?_ _ | refine blk_drew ?_ | refine blk_alloc ?_ _)); exact BK174.out) k_ hk)); (case aO => exact (by (with_reducible repeat (first | apply Kd.R_alloc | apply Kd.R_drewN | apply Kd.R_drew)); exact Kd.R_mono HO_1.out (fun _ hk => hk.2))); (case aS => exact (below_size (by repeat (first | (with_reducible first | exact HB.out | apply below_alloc | apply pw_below_drewN | apply below_drew1 | refine below_set ?_ GE174.out) | exact HB.out)))); (case aL => have := LMc5.out; omega); intro v177 w10 ho hb hg hat; rw [← Ny176.out] at ho; have n0_ := Aside0.mk (blk_grown (g := gb174) (o := .cells #[.int .i64 x2_1, .bool (decide ((Go.bits .and .i64 x3_2 1) > 0)), .bool (decide ((Go.bits .and .i64 x3_2 2) > 0)), .bool (decide ((Go.bits .and .i64 x3_2 4) > 0))] 23 (0, 0)) (by (with_reducible repeat (first | refine blk_drewN ?_ _ | refine blk_drew ?_ | refine blk_alloc ?_ _)); exact BK174.out) hg (Kd.R_away HO_1.out (fun _ hk => hk.2))); have n1_ := Aside0.mk (hb); have n2_ := Aside0.mk (ho); clear BK174; clear HB; clear HO_1; have BK174 := n0_; have HB := n1_; have HO178 := n2_; clear n0_ n1_ n2_; clear ho hb hg hat))
                  go_roundg k2
                  case measure => have := HK1.out; have := HK2.out; omega
                  case rel => exact ⟨(y176), (wrap64 (x3_2 + 1)), (by first | rfl | (simp; done) | (simp [*]; done)), H', ⟨by have := HK1.out; have := HK2.out; omega⟩, ⟨by (with_reducible repeat (first | apply Kd.R_alloc | apply Kd.R_drewN | apply Kd.R_drew)); exact Kd.R_mono HO178.out (fun _ hk => trivial)⟩, ⟨by repeat (first | (with_reducible first | exact HB.out | apply below_alloc | apply pw_below_drewN | apply below_drew1 | refine below_set ?_ GE174.out) | exact HB.out)⟩⟩
                · rw [if_neg c5] at H
                  exact absurd H (by simp)
              · rw [if_neg c4] at H
                have c4b0 : (t175 == 0) = false := beq_eq_false_iff_ne.mpr c4
                have c4b1 : (t175 != 0) = true := bne_iff_ne.mpr c4
                have H' := Aside0.mk H
                clear H
                go_wp2_with (first | ((with_reducible refine gate_dst (N := 4) rfl ?_); refine box_event ?hg (N := 4) ?hd (cs := #[.int .i64 0, .bool false, .bool false, .bool false]) (t := 23) ?hr ?_; (case hd => rfl); (case hg => rfl); (case hr => first | (go_simp; done) | (go_simp; rfl)); intro gb174 hg w11 hbox hb; have n0_ := Aside0.mk (Kd.R_below (Kd.R_elderB (by (with_reducible repeat (first | apply Kd.R_alloc | apply Kd.R_drewN | apply Kd.R_drew)); exact HO_1.out) gb174 (Nat.le_of_eq hg.symm)) hb); have n1_ := Aside0.mk (below_step (by repeat (first | (with_reducible first | exact HB.out | apply below_alloc | apply pw_below_drewN | apply below_drew1) | exact HB.out)) hb); have n2_ := Aside0.mk (hbox); have n3_ := Aside0.mk ((by rw [hg]; exact (below_size (by repeat (first | (with_reducible first | exact HB.out | apply below_alloc | apply pw_below_drewN | apply below_drew1) | exact HB.out))) : w.heap.size ≤ gb174)); have n4_ := Aside0.mk ((by rw [hg]; exact (below_size (by repeat (first | (with_reducible first | exact HB.out | apply below_alloc | apply pw_below_drewN | apply below_drew1) | exact HB.out))) : w.heap.size ≤ gb174)); clear HO_1; clear HB; have HO_1 := n0_; have HB := n1_; have BK174 := n2_; have GW174 := n3_; have GE174 := n4_; clear n0_ n1_ n2_ n3_ n4_; clear hb hbox hg; have hcz12_0 : w11.cell? ⟨gb174, 0, none⟩ = some (.int .i64 0) := (blk_cell BK174.out 0).trans rfl; have hcz12_1 : w11.cell? ⟨gb174, 1, none⟩ = some (.bool false) := (blk_cell BK174.out 1).trans rfl; have hcz12_2 : w11.cell? ⟨gb174, 2, none⟩ = some (.bool false) := (blk_cell BK174.out 2).trans rfl; have hcz12_3 : w11.cell? ⟨gb174, 3, none⟩ = some (.bool false) := (blk_cell BK174.out 3).trans rfl; have hfz12_0 := blk_frozen BK174.out 0; have hfz12_1 := blk_frozen BK174.out 1; have hfz12_2 := blk_frozen BK174.out 2; have hfz12_3 := blk_frozen BK174.out 3) | ((with_reducible refine gate_callee (f := 14) rfl ?_); refine goesL_ (some 25) rfl rfl Tryd.func14 (by kernel_rfl) rfl #[.agg #[.int .i64 x2_1, .bool (decide ((Go.bits .and .i64 x3_2 1) > 0)), .bool (decide ((Go.bits .and .i64 x3_2 2) > 0)), .bool (decide ((Go.bits .and .i64 x3_2 4) > 0))]] rfl (by (try simp only [List.map_toArray, List.map_cons, List.map_nil]); first | done | rfl | (simp only [List.length_drop, List.length_take]; rfl)) ?_; (with_reducible refine (stockyardref09_Check.calls x2_1 (decide ((Go.bits .and .i64 x3_2 1) > 0)) (decide ((Go.bits .and .i64 x3_2 2) > 0)) (decide ((Go.bits .and .i64 x3_2 4) > 0)) t175 _ A3.out).mono ?_); rintro e w13 ⟨rfl, hb⟩; refine ⟨_, rfl, ?_⟩; have n0_ := Aside0.mk (Kd.R_below (by (with_reducible repeat (first | apply Kd.R_alloc | apply Kd.R_drewN | apply Kd.R_drew)); exact (Kd.R_mono (Kd.R_far (p := ⟨gb174, 3, none⟩) (Kd.R_far (p := ⟨gb174, 2, none⟩) (Kd.R_far (p := ⟨gb174, 1, none⟩) (Kd.R_far (p := ⟨gb174, 0, none⟩) (Kd.R_mono HO_1.out (fun k_ hk => (⟨hk, hk.2⟩ : _ ∧ k_ ≠ gb174))) (fun _ hk => hk.2) (.int .i64 x2_1)) (fun _ hk => hk.2) (.bool (decide ((Go.bits .and .i64 x3_2 1) > 0)))) (fun _ hk => hk.2) (.bool (decide ((Go.bits .and .i64 x3_2 2) > 0)))) (fun _ hk => hk.2) (.bool (decide ((Go.bits .and .i64 x3_2 4) > 0)))) (fun _ h_ => h_.1))) hb); have n1_ := Aside0.mk (blk_below (g := gb174) (o := .cells #[.int .i64 x2_1, .bool (decide ((Go.bits .and .i64 x3_2 1) > 0)), .bool (decide ((Go.bits .and .i64 x3_2 2) > 0)), .bool (decide ((Go.bits .and .i64 x3_2 4) > 0))] 23 (0, 0)) (by (with_reducible repeat (first | refine blk_drewN ?_ _ | refine blk_drew ?_ | refine blk_alloc ?_ _)); refine blk_put (cs := #[.int .i64 x2_1, .bool (decide ((Go.bits .and .i64 x3_2 1) > 0)), .bool (decide ((Go.bits .and .i64 x3_2 2) > 0)), .bool false]) ?_ 3 _ rfl; (with_reducible repeat (first | refine blk_drewN ?_ _ | refine blk_drew ?_ | refine blk_alloc ?_ _)); refine blk_put (cs := #[.int .i64 x2_1, .bool (decide ((Go.bits .and .i64 x3_2 1) > 0)), .bool false, .bool false]) ?_ 2 _ rfl; (with_reducible repeat (first | refine blk_drewN ?_ _ | refine blk_drew ?_ | refine blk_alloc ?_ _)); refine blk_put (cs := #[.int .i64 x2_1, .bool false, .bool false, .bool false]) ?_ 1 _ rfl; (with_reducible repeat (first | refine blk_drewN ?_ _ | refine blk_drew ?_ | refine blk_alloc ?_ _)); refine blk_put (cs := #[.int .i64 0, .bool false, .bool false, .bool false]) ?_ 0 _ rfl; (with_reducible repeat (first | refine blk_drewN ?_ _ | refine blk_drew ?_ | refine blk_alloc ?_ _)); exact BK174.out) hb); have n2_ := Aside0.mk (below_step (by repeat (first | (with_reducible first | exact HB.out | apply below_alloc | apply pw_below_drewN | apply below_drew1 | refine below_set ?_ GE174.out) | exact HB.out)) hb); clear HO_1; clear BK174; clear HB; have HO_1 := n0_; have BK174 := n1_; have HB := n2_; clear n0_ n1_ n2_; (try clear hb); (try clear hb2); (try clear hk); (try clear hi)))
                go_roundg k2
                case measure => have := HK1.out; have := HK2.out; omega
                case rel => exact ⟨(x1_2), (wrap64 (x3_2 + 1)), (by first | rfl | (simp; done) | (simp [*]; done)), H', ⟨by have := HK1.out; have := HK2.out; omega⟩, ⟨by (with_reducible repeat (first | apply Kd.R_alloc | apply Kd.R_drewN | apply Kd.R_drew)); exact Kd.R_mono HO_1.out (fun _ hk => trivial)⟩, ⟨by repeat (first | (with_reducible first | exact HB.out | apply below_alloc | apply pw_below_drewN | apply below_drew1 | refine below_set ?_ GE174.out) | exact HB.out)⟩⟩
            · rw [if_neg c2] at H
              have c2b0 : decide (x3_2 < 8) = false := decide_eq_false c2
              clear c2
              have H' := Aside0.mk H
              clear H
              go_wp2
              go_roundg k2
              case measure => have := HK1.out; have := HK2.out; omega
              case rel => exact ⟨(x1_2), (wrap64 (x2_1 + 1)), (by first | rfl | (simp; done) | (simp [*]; done)), H', ⟨by have := HK1.out; have := HK2.out; omega⟩, ⟨by (with_reducible repeat (first | apply Kd.R_alloc | apply Kd.R_drewN | apply Kd.R_drew)); exact HO_1.out⟩, ⟨by repeat (first | (with_reducible first | exact HB.out | apply below_alloc | apply pw_below_drewN | apply below_drew1) | exact HB.out)⟩⟩
      · rw [if_neg c1] at H
        have c1b0 : decide (x2_1 ≤ 3) = false := decide_eq_false c1
        clear c1
        obtain rfl := Option.some.inj H
        go_wp2
        go_ret
        exact ⟨_, by first | rfl | (simp [errW_none, errW_some] <;> rfl) | (simp [*, errW_none, errW_some] <;> rfl), by (with_reducible repeat (first | apply Kd.R_alloc | apply Kd.R_drewN | apply Kd.R_drew)); exact HO_1.out, by repeat (first | (with_reducible first | exact HB.out | apply below_alloc | apply pw_below_drewN | apply below_drew1) | exact HB.out)⟩

/-! ### stockyardref09_Parse: function 19 -/
def stockyardref09_Parse.l0 : Nat → ByteArray → List (S23) → Int → Int → Option (Int × Bool × Bool × Bool × Int)
  | 0, _, _, _, _ => none
  | k + 1, x0, x6, x7, x8 => if x8 < x7 then (if 0 ≤ x8 then (if x8 < (x6.length : Int) then ((stockyardref09_Text.f k ((rd_T23 x6 x8).f0) ((rd_T23 x6 x8).f1) ((rd_T23 x6 x8).f2) ((rd_T23 x6 x8).f3)).bind fun t185 => (if t185.toList = x0.toList then (some ((rd_T23 x6 x8).f0, (rd_T23 x6 x8).f1, (rd_T23 x6 x8).f2, (rd_T23 x6 x8).f3, 0)) else (stockyardref09_Parse.l0 k x0 x6 x7 (wrap64 (x8 + 1))))) else (none)) else (none)) else (some (0, false, false, false, 90))
def stockyardref09_Parse.f (k : Nat) (a0 : ByteArray) : Option (Int × Bool × Bool × Bool × Int) := (stockyardref09_All.f k).bind fun t180 => (stockyardref09_Parse.l0 k a0 t180 (t180.length : Int) 0)
theorem stockyardref09_Parse.mono_l : ∀ k, (∀ y0 y1 y2 y3, LeO (stockyardref09_Parse.l0 k y0 y1 y2 y3) (stockyardref09_Parse.l0 (k + 1) y0 y1 y2 y3))
  | 0 => fun _ _ _ _ r h => by simp [stockyardref09_Parse.l0] at h
  | k + 1 => by
    have ih0 := stockyardref09_Parse.mono_l k
    · intro y0 y1 y2 y3
      unfold stockyardref09_Parse.l0
      repeat' first
      | (with_reducible exact ih0 _ _ _ _)
      | (with_reducible exact stockyardref09_All.mono _)
      | (with_reducible exact stockyardref09_Text.mono _ _ _ _ _)
      | (with_reducible exact LeO.refl _)
      | (with_reducible exact LeO.none _)
      | (with_reducible refine LeO.ite ?_ ?_)
      | (with_reducible refine LeO.bind ?_ (fun _ => ?_))
      | exact ih0 _ _ _ _
      | exact stockyardref09_All.mono _
      | exact stockyardref09_Text.mono _ _ _ _ _
      | exact LeO.none _
      | refine LeO.ite ?_ ?_
      | refine LeO.bind ?_ (fun _ => ?_)
theorem stockyardref09_Parse.mono : ∀ a0 k, LeO (stockyardref09_Parse.f k a0) (stockyardref09_Parse.f (k + 1) a0) := by
  intro a0 k
  have ih0 := stockyardref09_Parse.mono_l k
  unfold stockyardref09_Parse.f
  repeat' first
      | (with_reducible exact ih0 _ _ _ _)
      | (with_reducible exact stockyardref09_All.mono _)
      | (with_reducible exact stockyardref09_Text.mono _ _ _ _ _)
      | (with_reducible exact LeO.refl _)
      | (with_reducible exact LeO.none _)
      | (with_reducible refine LeO.ite ?_ ?_)
      | (with_reducible refine LeO.bind ?_ (fun _ => ?_))
      | exact ih0 _ _ _ _
      | exact stockyardref09_All.mono _
      | exact stockyardref09_Text.mono _ _ _ _ _
      | exact LeO.none _
      | refine LeO.ite ?_ ?_
      | refine LeO.bind ?_ (fun _ => ?_)
set_option maxHeartbeats 8000000 in
set_option maxRecDepth 100000 in
theorem stockyardref09_Parse.calls (k : Nat) (a0 : ByteArray) (r1 : Int) (r2 : Bool) (r3 : Bool) (r4 : Bool) (r5 : Int) (w : World) (h : stockyardref09_Parse.f k a0 = some (r1, r2, r3, r4, r5)) :
    Calls Tryd.prog 19 #[.string a0] w fun e w' => e = .returned (.tuple #[.agg #[.int .i64 r1, .bool r2, .bool r3, .bool r4], .int .i64 r5]) ∧ Below w.heap.size w w' := by
  have hu23 := Tryd.underlying23
  have HB := Aside0.mk (Below.refl w.heap.size w)
  have H : ((stockyardref09_All.f k).bind fun t180 => (stockyardref09_Parse.l0 k a0 t180 (t180.length : Int) 0)) = some (r1, r2, r3, r4, r5) := h
  clear h
  replace H := Option.bind_eq_some_iff.mp H
  obtain ⟨t180, A20, H⟩ := H
  replace H : (stockyardref09_Parse.l0 k a0 t180 (t180.length : Int) 0) = some (r1, r2, r3, r4, r5) := H
  have A2 := Aside0.mk A20
  clear A20
  have H' := Aside0.mk H
  clear H
  go_enter Tryd.func19, Tryd.ntmps19
  go_wp2_with (first | ((with_reducible refine gate_dst (N := 2) rfl ?_); refine box_event ?hg (N := 2) ?hd (cs := #[.int .i64 0, .bool false, .bool false, .bool false]) (t := 23) ?hr ?_; (case hd => rfl); (case hg => rfl); (case hr => first | (go_simp; done) | (go_simp; rfl)); intro gb179 hg w3 hbox hb; have n0_ := Aside0.mk (below_step (by repeat (first | (with_reducible first | exact HB.out | apply below_alloc | apply pw_below_drewN | apply below_drew1) | exact HB.out)) hb); have n1_ := Aside0.mk (hbox); have n2_ := Aside0.mk ((by rw [hg]; exact (below_size (by repeat (first | (with_reducible first | exact HB.out | apply below_alloc | apply pw_below_drewN | apply below_drew1) | exact HB.out))) : w.heap.size ≤ gb179)); have n3_ := Aside0.mk ((by rw [hg]; exact (below_size (by repeat (first | (with_reducible first | exact HB.out | apply below_alloc | apply pw_below_drewN | apply below_drew1) | exact HB.out))) : w.heap.size ≤ gb179)); clear HB; have HB := n0_; have BK179 := n1_; have GW179 := n2_; have GE179 := n3_; clear n0_ n1_ n2_ n3_; clear hb hbox hg) | ((with_reducible refine gate_callee (f := 20) rfl ?_); refine goesL_ (some 6) rfl rfl Tryd.func20 (by kernel_rfl) rfl #[] rfl (by (try simp only [List.map_toArray, List.map_cons, List.map_nil]); first | done | rfl | (simp only [List.length_drop, List.length_take]; rfl)) ?_; (with_reducible refine (stockyardref09_All.calls k  t180 _ A2.out).mono ?_); rintro e w4 ⟨v181, rfl, ho0, hb⟩; refine ⟨_, rfl, ?_⟩; have n0_ := Aside0.mk (Kd.R_lower (Kd.R_newB ho0 (g := gb179) (o := .cells #[.int .i64 0, .bool false, .bool false, .bool false] 23 (0, 0)) (by (with_reducible repeat (first | refine blk_drewN ?_ _ | refine blk_drew ?_ | refine blk_alloc ?_ _)); exact BK179.out)) (below_size (by repeat (first | (with_reducible first | exact HB.out | apply below_alloc | apply pw_below_drewN | apply below_drew1 | refine below_set ?_ GE179.out) | exact HB.out)))); have n1_ := Aside0.mk (blk_below (g := gb179) (o := .cells #[.int .i64 0, .bool false, .bool false, .bool false] 23 (0, 0)) (by (with_reducible repeat (first | refine blk_drewN ?_ _ | refine blk_drew ?_ | refine blk_alloc ?_ _)); exact BK179.out) hb); have n2_ := Aside0.mk (below_step (by repeat (first | (with_reducible first | exact HB.out | apply below_alloc | apply pw_below_drewN | apply below_drew1 | refine below_set ?_ GE179.out) | exact HB.out)) hb); clear BK179; clear HB; have HO182 := n0_; have BK179 := n1_; have HB := n2_; clear n0_ n1_ n2_; (try clear hb); (try clear hb2); (try clear hk); (try clear hi); (try clear ho0); obtain ⟨Ao5, co5, eo5⟩ := Kd.R_slice HO182.out; subst eo5))
  go_loopg [8] k (fun kq v8 w' => ∃ (x8_1 : Int) (x180000_1 : Int) (x180001_1 : Bool) (x180002_1 : Bool) (x180003_1 : Bool), v8 = .int .i64 x8_1 ∧ Aside0 (stockyardref09_Parse.l0 kq a0 t180 (t180.length : Int) x8_1 = some (r1, r2, r3, r4, r5)) ∧ Aside0 (kq ≤ k) ∧ Aside0 (Kd.R k23 23 w' w.heap.size (fun k_ => k_ ≠ gb179) (.slice Ao5 t180.length co5) t180) ∧ Aside0 (w'.heap[gb179]? = some (.cells #[.int .i64 x180000_1, .bool x180001_1, .bool x180002_1, .bool x180003_1] 23 (0, 0))) ∧ Aside0 (Below w.heap.size w w'))
  case atStart => exact ⟨(0), (0), (false), (false), (false), (by first | rfl | (simp; done) | (simp [*]; done)), H', ⟨Nat.le_refl _⟩, ⟨by (with_reducible repeat (first | apply Kd.R_alloc | apply Kd.R_drewN | apply Kd.R_drew)); exact Kd.R_mono HO182.out (fun _ hk => hk.2)⟩, ⟨by (with_reducible repeat (first | refine blk_drewN ?_ _ | refine blk_drew ?_ | refine blk_alloc ?_ _)); exact BK179.out⟩, ⟨by repeat (first | (with_reducible first | exact HB.out | apply below_alloc | apply pw_below_drewN | apply below_drew1 | refine below_set ?_ GE179.out) | exact HB.out)⟩⟩
  case round =>
    clear H'
    try clear c1
    try clear c2
    try clear p2
    obtain ⟨x8_1, x180000_1, x180001_1, x180002_1, x180003_1, rfl, HA, HK1, HO_6, BK179, HB⟩ := hrel
    cases gk with
    | zero => exact absurd HA.out (by simp [stockyardref09_Parse.l0])
    | succ k1 =>
      have H := HA.out
      clear HA
      simp only [stockyardref09_Parse.l0] at H
      by_cases c6 : x8_1 < (t180.length : Int)
      · rw [if_pos c6] at H
        have c6b0 : decide (x8_1 < (t180.length : Int)) = true := decide_eq_true c6
        clear c6
        by_cases c7 : 0 ≤ x8_1
        · rw [if_pos c7] at H
          have c7b0 : decide (0 ≤ x8_1) = true := decide_eq_true c7
          clear c7
          by_cases c8 : x8_1 < (t180.length : Int)
          · rw [if_pos c8] at H
            have c8b0 : decide (x8_1 < (t180.length : Int)) = true := decide_eq_true c8
            clear c8
            replace H := Option.bind_eq_some_iff.mp H
            obtain ⟨t185, A90, H⟩ := H
            replace H : (if t185.toList = a0.toList then (some ((rd_T23 t180 x8_1).f0, (rd_T23 t180 x8_1).f1, (rd_T23 t180 x8_1).f2, (rd_T23 t180 x8_1).f3, 0)) else (stockyardref09_Parse.l0 k1 a0 t180 (t180.length : Int) (wrap64 (x8_1 + 1)))) = some (r1, r2, r3, r4, r5) := H
            have A9 := Aside0.mk A90
            clear A90
            by_cases c10 : t185.toList = a0.toList
            · rw [if_pos c10] at H
              have c10b0 : (t185.toList == a0.toList) = true := beq_iff_eq.mpr c10
              have c10b1 : (t185.toList != a0.toList) = false := bne_eq_false_iff_eq.mpr c10
              clear c10
              simp only [Option.some.injEq, Prod.mk.injEq] at H
              obtain ⟨rfl, rfl, rfl, rfl, rfl⟩ := H
              have p183 : 0 ≤ (x8_1 : Int) := of_decide_eq_true (by first | (with_reducible assumption) | assumption)
              have q183 : x8_1 < (t180.length : Int) := of_decide_eq_true (by first | (with_reducible assumption) | assumption)
              obtain ⟨ad183, e183, hx183_0, hx183_1, hx183_2, hx183_3⟩ := at_T23 (Kd.R_reads' HO_6.out).2.2 x8_1 p183 q183
              cases e183
              replace p183 := eq_true p183
              replace q183 := eq_true q183
              go_wp2_with (first | ((with_reducible refine gate_dst (N := 5) rfl ?_); refine box_event ?hg (N := 5) ?hd (cs := #[.int .i64 0, .bool false, .bool false, .bool false]) (t := 23) ?hr ?_; (case hd => rfl); (case hg => rfl); (case hr => first | (go_simp; done) | (go_simp; rfl)); intro gb184 hg w11 hbox hb; have n0_ := Aside0.mk (Kd.R_below (Kd.R_elderB (by (with_reducible repeat (first | apply Kd.R_alloc | apply Kd.R_drewN | apply Kd.R_drew)); exact HO_6.out) gb184 (Nat.le_of_eq hg.symm)) hb); have n1_ := Aside0.mk (blk_below (g := gb179) (o := .cells #[.int .i64 x180000_1, .bool x180001_1, .bool x180002_1, .bool x180003_1] 23 (0, 0)) (by (with_reducible repeat (first | refine blk_drewN ?_ _ | refine blk_drew ?_ | refine blk_alloc ?_ _)); exact BK179.out) hb); have n2_ := Aside0.mk (below_step (by repeat (first | (with_reducible first | exact HB.out | apply below_alloc | apply pw_below_drewN | apply below_drew1 | refine below_set ?_ GE179.out) | exact HB.out)) hb); have n3_ := Aside0.mk (hbox); have n4_ := Aside0.mk ((by rw [hg]; exact (below_size (by repeat (first | (with_reducible first | exact HB.out | apply below_alloc | apply pw_below_drewN | apply below_drew1 | refine below_set ?_ GE179.out) | exact HB.out))) : w.heap.size ≤ gb184)); have n5_ := Aside0.mk ((by rw [hg]; exact (below_size (by repeat (first | (with_reducible first | exact HB.out | apply below_alloc | apply pw_below_drewN | apply below_drew1 | refine below_set ?_ GE179.out) | exact HB.out))) : w.heap.size ≤ gb184)); have n6_ := Aside0.mk ((by rw [hg]; exact Nat.ne_of_lt (blk_lt (g := gb179) (o := .cells #[.int .i64 x180000_1, .bool x180001_1, .bool x180002_1, .bool x180003_1] 23 (0, 0)) (by (with_reducible repeat (first | refine blk_drewN ?_ _ | refine blk_drew ?_ | refine blk_alloc ?_ _)); exact BK179.out)) : gb179 ≠ gb184)); have n7_ := Aside0.mk ((by rw [hg]; exact Nat.ne_of_gt (blk_lt (g := gb179) (o := .cells #[.int .i64 x180000_1, .bool x180001_1, .bool x180002_1, .bool x180003_1] 23 (0, 0)) (by (with_reducible repeat (first | refine blk_drewN ?_ _ | refine blk_drew ?_ | refine blk_alloc ?_ _)); exact BK179.out)) : gb184 ≠ gb179)); clear HO_6; clear BK179; clear HB; have HO_6 := n0_; have BK179 := n1_; have HB := n2_; have BK184 := n3_; have GW184 := n4_; have GE184 := n5_; have NB179_184 := n6_; have NB184_179 := n7_; clear n0_ n1_ n2_ n3_ n4_ n5_ n6_ n7_; clear hb hbox hg; have hnb12 := NB184_179.out; have hnc12 := NB179_184.out; have hcz13_0 : w11.cell? ⟨gb184, 0, none⟩ = some (.int .i64 0) := (blk_cell BK184.out 0).trans rfl; have hcz13_1 : w11.cell? ⟨gb184, 1, none⟩ = some (.bool false) := (blk_cell BK184.out 1).trans rfl; have hcz13_2 : w11.cell? ⟨gb184, 2, none⟩ = some (.bool false) := (blk_cell BK184.out 2).trans rfl; have hcz13_3 : w11.cell? ⟨gb184, 3, none⟩ = some (.bool false) := (blk_cell BK184.out 3).trans rfl; have hfz13_0 := blk_frozen BK184.out 0; have hfz13_1 := blk_frozen BK184.out 1; have hfz13_2 := blk_frozen BK184.out 2; have hfz13_3 := blk_frozen BK184.out 3) | ((with_reducible refine gate_callee (f := 17) rfl ?_); refine goesL_ (some 13) rfl rfl Tryd.func17 (by kernel_rfl) rfl #[.agg #[.int .i64 ((rd_T23 t180 x8_1).f0), .bool ((rd_T23 t180 x8_1).f1), .bool ((rd_T23 t180 x8_1).f2), .bool ((rd_T23 t180 x8_1).f3)]] rfl (by (try simp only [List.map_toArray, List.map_cons, List.map_nil]); first | done | rfl | (simp only [List.length_drop, List.length_take]; rfl)) ?_; (with_reducible refine (stockyardref09_Text.calls k1 ((rd_T23 t180 x8_1).f0) ((rd_T23 t180 x8_1).f1) ((rd_T23 t180 x8_1).f2) ((rd_T23 t180 x8_1).f3) t185 _ A9.out).mono ?_); rintro e w14 ⟨rfl, hb⟩; refine ⟨_, rfl, ?_⟩; have n0_ := Aside0.mk (Kd.R_below (by (with_reducible repeat (first | apply Kd.R_alloc | apply Kd.R_drewN | apply Kd.R_drew)); exact (Kd.R_mono (Kd.R_far (p := ⟨gb184, 3, none⟩) (Kd.R_far (p := ⟨gb184, 2, none⟩) (Kd.R_far (p := ⟨gb184, 1, none⟩) (Kd.R_far (p := ⟨gb184, 0, none⟩) (Kd.R_mono HO_6.out (fun k_ hk => (⟨hk, hk.2⟩ : _ ∧ k_ ≠ gb184))) (fun _ hk => hk.2) (.int .i64 ((rd_T23 t180 x8_1).f0))) (fun _ hk => hk.2) (.bool ((rd_T23 t180 x8_1).f1))) (fun _ hk => hk.2) (.bool ((rd_T23 t180 x8_1).f2))) (fun _ hk => hk.2) (.bool ((rd_T23 t180 x8_1).f3))) (fun _ h_ => h_.1))) hb); have n1_ := Aside0.mk (blk_below (g := gb179) (o := .cells #[.int .i64 x180000_1, .bool x180001_1, .bool x180002_1, .bool x180003_1] 23 (0, 0)) (by (with_reducible repeat (first | refine blk_drewN ?_ _ | refine blk_drew ?_ | refine blk_alloc ?_ _)); refine blk_far ?_ NB179_184.out _; (with_reducible repeat (first | refine blk_drewN ?_ _ | refine blk_drew ?_ | refine blk_alloc ?_ _)); refine blk_far ?_ NB179_184.out _; (with_reducible repeat (first | refine blk_drewN ?_ _ | refine blk_drew ?_ | refine blk_alloc ?_ _)); refine blk_far ?_ NB179_184.out _; (with_reducible repeat (first | refine blk_drewN ?_ _ | refine blk_drew ?_ | refine blk_alloc ?_ _)); refine blk_far ?_ NB179_184.out _; (with_reducible repeat (first | refine blk_drewN ?_ _ | refine blk_drew ?_ | refine blk_alloc ?_ _)); exact BK179.out) hb); have n2_ := Aside0.mk (blk_below (g := gb184) (o := .cells #[.int .i64 ((rd_T23 t180 x8_1).f0), .bool ((rd_T23 t180 x8_1).f1), .bool ((rd_T23 t180 x8_1).f2), .bool ((rd_T23 t180 x8_1).f3)] 23 (0, 0)) (by (with_reducible repeat (first | refine blk_drewN ?_ _ | refine blk_drew ?_ | refine blk_alloc ?_ _)); refine blk_put (cs := #[.int .i64 ((rd_T23 t180 x8_1).f0), .bool ((rd_T23 t180 x8_1).f1), .bool ((rd_T23 t180 x8_1).f2), .bool false]) ?_ 3 _ rfl; (with_reducible repeat (first | refine blk_drewN ?_ _ | refine blk_drew ?_ | refine blk_alloc ?_ _)); refine blk_put (cs := #[.int .i64 ((rd_T23 t180 x8_1).f0), .bool ((rd_T23 t180 x8_1).f1), .bool false, .bool false]) ?_ 2 _ rfl; (with_reducible repeat (first | refine blk_drewN ?_ _ | refine blk_drew ?_ | refine blk_alloc ?_ _)); refine blk_put (cs := #[.int .i64 ((rd_T23 t180 x8_1).f0), .bool false, .bool false, .bool false]) ?_ 1 _ rfl; (with_reducible repeat (first | refine blk_drewN ?_ _ | refine blk_drew ?_ | refine blk_alloc ?_ _)); refine blk_put (cs := #[.int .i64 0, .bool false, .bool false, .bool false]) ?_ 0 _ rfl; (with_reducible repeat (first | refine blk_drewN ?_ _ | refine blk_drew ?_ | refine blk_alloc ?_ _)); exact BK184.out) hb); have n3_ := Aside0.mk (below_step (by repeat (first | (with_reducible first | exact HB.out | apply below_alloc | apply pw_below_drewN | apply below_drew1 | refine below_set ?_ GE179.out | refine below_set ?_ GE184.out) | exact HB.out)) hb); clear HO_6; clear BK179; clear BK184; clear HB; have HO_6 := n0_; have BK179 := n1_; have BK184 := n2_; have HB := n3_; clear n0_ n1_ n2_ n3_; (try clear hb); (try clear hb2); (try clear hk); (try clear hi); have hcz15_0 : w14.cell? ⟨gb184, 0, none⟩ = some (.int .i64 ((rd_T23 t180 x8_1).f0)) := (blk_cell BK184.out 0).trans rfl; have hcz15_1 : w14.cell? ⟨gb184, 1, none⟩ = some (.bool ((rd_T23 t180 x8_1).f1)) := (blk_cell BK184.out 1).trans rfl; have hcz15_2 : w14.cell? ⟨gb184, 2, none⟩ = some (.bool ((rd_T23 t180 x8_1).f2)) := (blk_cell BK184.out 2).trans rfl; have hcz15_3 : w14.cell? ⟨gb184, 3, none⟩ = some (.bool ((rd_T23 t180 x8_1).f3)) := (blk_cell BK184.out 3).trans rfl; have hfz15_0 := blk_frozen BK184.out 0; have hfz15_1 := blk_frozen BK184.out 1; have hfz15_2 := blk_frozen BK184.out 2; have hfz15_3 := blk_frozen BK184.out 3; have hcz16_0 : w14.cell? ⟨gb179, 0, none⟩ = some (.int .i64 x180000_1) := (blk_cell BK179.out 0).trans rfl; have hcz16_1 : w14.cell? ⟨gb179, 1, none⟩ = some (.bool x180001_1) := (blk_cell BK179.out 1).trans rfl; have hcz16_2 : w14.cell? ⟨gb179, 2, none⟩ = some (.bool x180002_1) := (blk_cell BK179.out 2).trans rfl; have hcz16_3 : w14.cell? ⟨gb179, 3, none⟩ = some (.bool x180003_1) := (blk_cell BK179.out 3).trans rfl; have hfz16_0 := blk_frozen BK179.out 0; have hfz16_1 := blk_frozen BK179.out 1; have hfz16_2 := blk_frozen BK179.out 2; have hfz16_3 := blk_frozen BK179.out 3))
              refine bodyPost_ret (results_ct rfl _ _ gb179 23 #[.int .i64 ((rd_T23 t180 x8_1).f0), .bool ((rd_T23 t180 x8_1).f1), .bool ((rd_T23 t180 x8_1).f2), .bool ((rd_T23 t180 x8_1).f3)] (0, 0) _ rfl (by (with_reducible repeat (first | refine blk_drewN ?_ _ | refine blk_drew ?_ | refine blk_alloc ?_ _)); refine blk_put (cs := #[.int .i64 ((rd_T23 t180 x8_1).f0), .bool ((rd_T23 t180 x8_1).f1), .bool ((rd_T23 t180 x8_1).f2), .bool x180003_1]) ?_ 3 _ rfl; (with_reducible repeat (first | refine blk_drewN ?_ _ | refine blk_drew ?_ | refine blk_alloc ?_ _)); refine blk_put (cs := #[.int .i64 ((rd_T23 t180 x8_1).f0), .bool ((rd_T23 t180 x8_1).f1), .bool x180002_1, .bool x180003_1]) ?_ 2 _ rfl; (with_reducible repeat (first | refine blk_drewN ?_ _ | refine blk_drew ?_ | refine blk_alloc ?_ _)); refine blk_put (cs := #[.int .i64 ((rd_T23 t180 x8_1).f0), .bool x180001_1, .bool x180002_1, .bool x180003_1]) ?_ 1 _ rfl; (with_reducible repeat (first | refine blk_drewN ?_ _ | refine blk_drew ?_ | refine blk_alloc ?_ _)); refine blk_put (cs := #[.int .i64 x180000_1, .bool x180001_1, .bool x180002_1, .bool x180003_1]) ?_ 0 _ rfl; (with_reducible repeat (first | refine blk_drewN ?_ _ | refine blk_drew ?_ | refine blk_alloc ?_ _)); exact BK179.out) Tryd.underlying23 rfl (by kernel_rfl)) rfl ?_
              exact ⟨by first | rfl | (simp [errW_none, errW_some] <;> rfl) | (simp [*, errW_none, errW_some] <;> rfl), by repeat (first | (with_reducible first | exact HB.out | apply below_alloc | apply pw_below_drewN | apply below_drew1 | refine below_set ?_ GE179.out | refine below_set ?_ GE184.out) | exact HB.out)⟩
            · rw [if_neg c10] at H
              have c10b0 : (t185.toList == a0.toList) = false := beq_eq_false_iff_ne.mpr c10
              have c10b1 : (t185.toList != a0.toList) = true := bne_iff_ne.mpr c10
              have H' := Aside0.mk H
              clear H
              have p183 : 0 ≤ (x8_1 : Int) := of_decide_eq_true (by first | (with_reducible assumption) | assumption)
              have q183 : x8_1 < (t180.length : Int) := of_decide_eq_true (by first | (with_reducible assumption) | assumption)
              obtain ⟨ad183, e183, hx183_0, hx183_1, hx183_2, hx183_3⟩ := at_T23 (Kd.R_reads' HO_6.out).2.2 x8_1 p183 q183
              cases e183
              replace p183 := eq_true p183
              replace q183 := eq_true q183
              go_wp2_with (first | ((with_reducible refine gate_dst (N := 5) rfl ?_); refine box_event ?hg (N := 5) ?hd (cs := #[.int .i64 0, .bool false, .bool false, .bool false]) (t := 23) ?hr ?_; (case hd => rfl); (case hg => rfl); (case hr => first | (go_simp; done) | (go_simp; rfl)); intro gb184 hg w17 hbox hb; have n0_ := Aside0.mk (Kd.R_below (Kd.R_elderB (by (with_reducible repeat (first | apply Kd.R_alloc | apply Kd.R_drewN | apply Kd.R_drew)); exact HO_6.out) gb184 (Nat.le_of_eq hg.symm)) hb); have n1_ := Aside0.mk (blk_below (g := gb179) (o := .cells #[.int .i64 x180000_1, .bool x180001_1, .bool x180002_1, .bool x180003_1] 23 (0, 0)) (by (with_reducible repeat (first | refine blk_drewN ?_ _ | refine blk_drew ?_ | refine blk_alloc ?_ _)); exact BK179.out) hb); have n2_ := Aside0.mk (below_step (by repeat (first | (with_reducible first | exact HB.out | apply below_alloc | apply pw_below_drewN | apply below_drew1 | refine below_set ?_ GE179.out) | exact HB.out)) hb); have n3_ := Aside0.mk (hbox); have n4_ := Aside0.mk ((by rw [hg]; exact (below_size (by repeat (first | (with_reducible first | exact HB.out | apply below_alloc | apply pw_below_drewN | apply below_drew1 | refine below_set ?_ GE179.out) | exact HB.out))) : w.heap.size ≤ gb184)); have n5_ := Aside0.mk ((by rw [hg]; exact (below_size (by repeat (first | (with_reducible first | exact HB.out | apply below_alloc | apply pw_below_drewN | apply below_drew1 | refine below_set ?_ GE179.out) | exact HB.out))) : w.heap.size ≤ gb184)); have n6_ := Aside0.mk ((by rw [hg]; exact Nat.ne_of_lt (blk_lt (g := gb179) (o := .cells #[.int .i64 x180000_1, .bool x180001_1, .bool x180002_1, .bool x180003_1] 23 (0, 0)) (by (with_reducible repeat (first | refine blk_drewN ?_ _ | refine blk_drew ?_ | refine blk_alloc ?_ _)); exact BK179.out)) : gb179 ≠ gb184)); have n7_ := Aside0.mk ((by rw [hg]; exact Nat.ne_of_gt (blk_lt (g := gb179) (o := .cells #[.int .i64 x180000_1, .bool x180001_1, .bool x180002_1, .bool x180003_1] 23 (0, 0)) (by (with_reducible repeat (first | refine blk_drewN ?_ _ | refine blk_drew ?_ | refine blk_alloc ?_ _)); exact BK179.out)) : gb184 ≠ gb179)); clear HO_6; clear BK179; clear HB; have HO_6 := n0_; have BK179 := n1_; have HB := n2_; have BK184 := n3_; have GW184 := n4_; have GE184 := n5_; have NB179_184 := n6_; have NB184_179 := n7_; clear n0_ n1_ n2_ n3_ n4_ n5_ n6_ n7_; clear hb hbox hg; have hnb18 := NB184_179.out; have hnc18 := NB179_184.out; have hcz19_0 : w17.cell? ⟨gb184, 0, none⟩ = some (.int .i64 0) := (blk_cell BK184.out 0).trans rfl; have hcz19_1 : w17.cell? ⟨gb184, 1, none⟩ = some (.bool false) := (blk_cell BK184.out 1).trans rfl; have hcz19_2 : w17.cell? ⟨gb184, 2, none⟩ = some (.bool false) := (blk_cell BK184.out 2).trans rfl; have hcz19_3 : w17.cell? ⟨gb184, 3, none⟩ = some (.bool false) := (blk_cell BK184.out 3).trans rfl; have hfz19_0 := blk_frozen BK184.out 0; have hfz19_1 := blk_frozen BK184.out 1; have hfz19_2 := blk_frozen BK184.out 2; have hfz19_3 := blk_frozen BK184.out 3) | ((with_reducible refine gate_callee (f := 17) rfl ?_); refine goesL_ (some 13) rfl rfl Tryd.func17 (by kernel_rfl) rfl #[.agg #[.int .i64 ((rd_T23 t180 x8_1).f0), .bool ((rd_T23 t180 x8_1).f1), .bool ((rd_T23 t180 x8_1).f2), .bool ((rd_T23 t180 x8_1).f3)]] rfl (by (try simp only [List.map_toArray, List.map_cons, List.map_nil]); first | done | rfl | (simp only [List.length_drop, List.length_take]; rfl)) ?_; (with_reducible refine (stockyardref09_Text.calls k1 ((rd_T23 t180 x8_1).f0) ((rd_T23 t180 x8_1).f1) ((rd_T23 t180 x8_1).f2) ((rd_T23 t180 x8_1).f3) t185 _ A9.out).mono ?_); rintro e w20 ⟨rfl, hb⟩; refine ⟨_, rfl, ?_⟩; have n0_ := Aside0.mk (Kd.R_below (by (with_reducible repeat (first | apply Kd.R_alloc | apply Kd.R_drewN | apply Kd.R_drew)); exact (Kd.R_mono (Kd.R_far (p := ⟨gb184, 3, none⟩) (Kd.R_far (p := ⟨gb184, 2, none⟩) (Kd.R_far (p := ⟨gb184, 1, none⟩) (Kd.R_far (p := ⟨gb184, 0, none⟩) (Kd.R_mono HO_6.out (fun k_ hk => (⟨hk, hk.2⟩ : _ ∧ k_ ≠ gb184))) (fun _ hk => hk.2) (.int .i64 ((rd_T23 t180 x8_1).f0))) (fun _ hk => hk.2) (.bool ((rd_T23 t180 x8_1).f1))) (fun _ hk => hk.2) (.bool ((rd_T23 t180 x8_1).f2))) (fun _ hk => hk.2) (.bool ((rd_T23 t180 x8_1).f3))) (fun _ h_ => h_.1))) hb); have n1_ := Aside0.mk (blk_below (g := gb179) (o := .cells #[.int .i64 x180000_1, .bool x180001_1, .bool x180002_1, .bool x180003_1] 23 (0, 0)) (by (with_reducible repeat (first | refine blk_drewN ?_ _ | refine blk_drew ?_ | refine blk_alloc ?_ _)); refine blk_far ?_ NB179_184.out _; (with_reducible repeat (first | refine blk_drewN ?_ _ | refine blk_drew ?_ | refine blk_alloc ?_ _)); refine blk_far ?_ NB179_184.out _; (with_reducible repeat (first | refine blk_drewN ?_ _ | refine blk_drew ?_ | refine blk_alloc ?_ _)); refine blk_far ?_ NB179_184.out _; (with_reducible repeat (first | refine blk_drewN ?_ _ | refine blk_drew ?_ | refine blk_alloc ?_ _)); refine blk_far ?_ NB179_184.out _; (with_reducible repeat (first | refine blk_drewN ?_ _ | refine blk_drew ?_ | refine blk_alloc ?_ _)); exact BK179.out) hb); have n2_ := Aside0.mk (blk_below (g := gb184) (o := .cells #[.int .i64 ((rd_T23 t180 x8_1).f0), .bool ((rd_T23 t180 x8_1).f1), .bool ((rd_T23 t180 x8_1).f2), .bool ((rd_T23 t180 x8_1).f3)] 23 (0, 0)) (by (with_reducible repeat (first | refine blk_drewN ?_ _ | refine blk_drew ?_ | refine blk_alloc ?_ _)); refine blk_put (cs := #[.int .i64 ((rd_T23 t180 x8_1).f0), .bool ((rd_T23 t180 x8_1).f1), .bool ((rd_T23 t180 x8_1).f2), .bool false]) ?_ 3 _ rfl; (with_reducible repeat (first | refine blk_drewN ?_ _ | refine blk_drew ?_ | refine blk_alloc ?_ _)); refine blk_put (cs := #[.int .i64 ((rd_T23 t180 x8_1).f0), .bool ((rd_T23 t180 x8_1).f1), .bool false, .bool false]) ?_ 2 _ rfl; (with_reducible repeat (first | refine blk_drewN ?_ _ | refine blk_drew ?_ | refine blk_alloc ?_ _)); refine blk_put (cs := #[.int .i64 ((rd_T23 t180 x8_1).f0), .bool false, .bool false, .bool false]) ?_ 1 _ rfl; (with_reducible repeat (first | refine blk_drewN ?_ _ | refine blk_drew ?_ | refine blk_alloc ?_ _)); refine blk_put (cs := #[.int .i64 0, .bool false, .bool false, .bool false]) ?_ 0 _ rfl; (with_reducible repeat (first | refine blk_drewN ?_ _ | refine blk_drew ?_ | refine blk_alloc ?_ _)); exact BK184.out) hb); have n3_ := Aside0.mk (below_step (by repeat (first | (with_reducible first | exact HB.out | apply below_alloc | apply pw_below_drewN | apply below_drew1 | refine below_set ?_ GE179.out | refine below_set ?_ GE184.out) | exact HB.out)) hb); clear HO_6; clear BK179; clear BK184; clear HB; have HO_6 := n0_; have BK179 := n1_; have BK184 := n2_; have HB := n3_; clear n0_ n1_ n2_ n3_; (try clear hb); (try clear hb2); (try clear hk); (try clear hi)))
              go_roundg k1
              case measure => have := HK1.out; omega
              case rel => exact ⟨(wrap64 (x8_1 + 1)), (x180000_1), (x180001_1), (x180002_1), (x180003_1), (by first | rfl | (simp; done) | (simp [*]; done)), H', ⟨by have := HK1.out; omega⟩, ⟨by (with_reducible repeat (first | apply Kd.R_alloc | apply Kd.R_drewN | apply Kd.R_drew)); exact Kd.R_mono HO_6.out (fun _ hk => hk.1)⟩, ⟨by (with_reducible repeat (first | refine blk_drewN ?_ _ | refine blk_drew ?_ | refine blk_alloc ?_ _)); exact BK179.out⟩, ⟨by repeat (first | (with_reducible first | exact HB.out | apply below_alloc | apply pw_below_drewN | apply below_drew1 | refine below_set ?_ GE179.out | refine below_set ?_ GE184.out) | exact HB.out)⟩⟩
          · rw [if_neg c8] at H
            exact absurd H (by simp)
        · rw [if_neg c7] at H
          exact absurd H (by simp)
      · rw [if_neg c6] at H
        have c6b0 : decide (x8_1 < (t180.length : Int)) = false := decide_eq_false c6
        clear c6
        simp only [Option.some.injEq, Prod.mk.injEq] at H
        obtain ⟨rfl, rfl, rfl, rfl, rfl⟩ := H
        have hcz21_0 : wr.cell? ⟨gb179, 0, none⟩ = some (.int .i64 x180000_1) := (blk_cell BK179.out 0).trans rfl
        have hcz21_1 : wr.cell? ⟨gb179, 1, none⟩ = some (.bool x180001_1) := (blk_cell BK179.out 1).trans rfl
        have hcz21_2 : wr.cell? ⟨gb179, 2, none⟩ = some (.bool x180002_1) := (blk_cell BK179.out 2).trans rfl
        have hcz21_3 : wr.cell? ⟨gb179, 3, none⟩ = some (.bool x180003_1) := (blk_cell BK179.out 3).trans rfl
        have hfz21_0 := blk_frozen BK179.out 0
        have hfz21_1 := blk_frozen BK179.out 1
        have hfz21_2 := blk_frozen BK179.out 2
        have hfz21_3 := blk_frozen BK179.out 3
        go_wp2
        refine bodyPost_ret (results_ct rfl _ _ gb179 23 #[.int .i64 0, .bool false, .bool false, .bool false] (0, 0) _ rfl (by (with_reducible repeat (first | refine blk_drewN ?_ _ | refine blk_drew ?_ | refine blk_alloc ?_ _)); refine blk_put (cs := #[.int .i64 0, .bool false, .bool false, .bool x180003_1]) ?_ 3 _ rfl; (with_reducible repeat (first | refine blk_drewN ?_ _ | refine blk_drew ?_ | refine blk_alloc ?_ _)); refine blk_put (cs := #[.int .i64 0, .bool false, .bool x180002_1, .bool x180003_1]) ?_ 2 _ rfl; (with_reducible repeat (first | refine blk_drewN ?_ _ | refine blk_drew ?_ | refine blk_alloc ?_ _)); refine blk_put (cs := #[.int .i64 0, .bool x180001_1, .bool x180002_1, .bool x180003_1]) ?_ 1 _ rfl; (with_reducible repeat (first | refine blk_drewN ?_ _ | refine blk_drew ?_ | refine blk_alloc ?_ _)); refine blk_put (cs := #[.int .i64 x180000_1, .bool x180001_1, .bool x180002_1, .bool x180003_1]) ?_ 0 _ rfl; (with_reducible repeat (first | refine blk_drewN ?_ _ | refine blk_drew ?_ | refine blk_alloc ?_ _)); exact BK179.out) Tryd.underlying23 rfl (by kernel_rfl)) rfl ?_
        exact ⟨by first | rfl | (simp [errW_none, errW_some] <;> rfl) | (simp [*, errW_none, errW_some] <;> rfl), by repeat (first | (with_reducible first | exact HB.out | apply below_alloc | apply pw_below_drewN | apply below_drew1 | refine below_set ?_ GE179.out) | exact HB.out)⟩

/-! ### stockyardlaw09_FiletypeParses: function 4 -/
def stockyardlaw09_FiletypeParses.f (k : Nat) (a0 : ByteArray) : Option (Bool) := (filetype_Parse.f a0).bind fun bt186 => ((stockyardref09_Parse.f k a0).bind fun bt192 => (if (bt186.1 == bt192.1 && (bt186.2.1 == bt192.2.1 && (bt186.2.2.1 == bt192.2.2.1 && (bt186.2.2.2.1 == bt192.2.2.2.1)))) = true then (if bt186.2.2.2.2 = bt192.2.2.2.2 then ((stockyardlaw09_awake.f k).bind fun t198 => (some t198)) else (some false)) else (some false)))
theorem stockyardlaw09_FiletypeParses.mono : ∀ a0 k, LeO (stockyardlaw09_FiletypeParses.f k a0) (stockyardlaw09_FiletypeParses.f (k + 1) a0) := by
  intro a0 k
  unfold stockyardlaw09_FiletypeParses.f
  repeat' first
      | (with_reducible exact stockyardlaw09_awake.mono _)
      | (with_reducible exact stockyardref09_Parse.mono _ _)
      | (with_reducible exact LeO.refl _)
      | (with_reducible exact LeO.none _)
      | (with_reducible refine LeO.ite ?_ ?_)
      | (with_reducible refine LeO.bind ?_ (fun _ => ?_))
      | exact stockyardlaw09_awake.mono _
      | exact stockyardref09_Parse.mono _ _
      | exact LeO.none _
      | refine LeO.ite ?_ ?_
      | refine LeO.bind ?_ (fun _ => ?_)
set_option maxHeartbeats 8000000 in
set_option maxRecDepth 100000 in
theorem stockyardlaw09_FiletypeParses.calls (k : Nat) (a0 : ByteArray) (r : Bool) (w : World) (h : stockyardlaw09_FiletypeParses.f k a0 = some r) :
    Calls Tryd.prog 4 #[.string a0] w fun e w' => e = .returned (.bool r) ∧ Below w.heap.size w w' := by
  have hu23 := Tryd.underlying23
  have HB := Aside0.mk (Below.refl w.heap.size w)
  have H : ((filetype_Parse.f a0).bind fun bt186 => ((stockyardref09_Parse.f k a0).bind fun bt192 => (if (bt186.1 == bt192.1 && (bt186.2.1 == bt192.2.1 && (bt186.2.2.1 == bt192.2.2.1 && (bt186.2.2.2.1 == bt192.2.2.2.1)))) = true then (if bt186.2.2.2.2 = bt192.2.2.2.2 then ((stockyardlaw09_awake.f k).bind fun t198 => (some t198)) else (some false)) else (some false)))) = some r := h
  clear h
  replace H := Option.bind_eq_some_iff.mp H
  obtain ⟨⟨t186, t187, t188, t189, t190⟩, A20, H⟩ := H
  replace H : ((stockyardref09_Parse.f k a0).bind fun bt192 => (if (t186 == bt192.1 && (t187 == bt192.2.1 && (t188 == bt192.2.2.1 && (t189 == bt192.2.2.2.1)))) = true then (if t190 = bt192.2.2.2.2 then ((stockyardlaw09_awake.f k).bind fun t198 => (some t198)) else (some false)) else (some false))) = some r := H
  have A2 := Aside0.mk A20
  clear A20
  replace H := Option.bind_eq_some_iff.mp H
  obtain ⟨⟨t192, t193, t194, t195, t196⟩, A30, H⟩ := H
  replace H : (if (t186 == t192 && (t187 == t193 && (t188 == t194 && (t189 == t195)))) = true then (if t190 = t196 then ((stockyardlaw09_awake.f k).bind fun t198 => (some t198)) else (some false)) else (some false)) = some r := H
  have A3 := Aside0.mk A30
  clear A30
  by_cases c4 : (t186 == t192 && (t187 == t193 && (t188 == t194 && (t189 == t195)))) = true
  · rw [if_pos c4] at H
    have c4b0 : (t186 == t192 && (t187 == t193 && (t188 == t194 && (t189 == t195)))) = true := c4
    (try (have c4b1 : decide (t186 = t192 && (t187 == t193 && (t188 == t194 && (t189 == t195)))) = true := by simpa using c4))
    (try (have c4b2 : (t186 == t192 && (t187 == t193 && (t188 == t194 && (t189 == t195)))) = true := by simpa using c4))
    clear c4
    by_cases c5 : t190 = t196
    · rw [if_pos c5] at H
      have c5b0 : (t190 == t196) = true := beq_iff_eq.mpr c5
      have c5b1 : (t190 != t196) = false := bne_eq_false_iff_eq.mpr c5
      clear c5
      replace H := Option.bind_eq_some_iff.mp H
      obtain ⟨t198, A60, H⟩ := H
      replace H : (some t198) = some r := H
      have A6 := Aside0.mk A60
      clear A60
      obtain rfl := Option.some.inj H
      go_enter Tryd.func4, Tryd.ntmps4
      go_wp2_with (first | ((with_reducible refine gate_callee (f := 18) rfl ?_); refine goesL_ (some 9) rfl rfl Tryd.func18 (by kernel_rfl) rfl #[.string a0] rfl (by (try simp only [List.map_toArray, List.map_cons, List.map_nil]); first | done | rfl | (simp only [List.length_drop, List.length_take]; rfl)) ?_; (with_reducible refine (filetype_Parse.calls a0 t186 t187 t188 t189 t190 _ A2.out).mono ?_); rintro e w7 ⟨rfl, hb⟩; refine ⟨_, rfl, ?_⟩; have n0_ := Aside0.mk (below_step (by repeat (first | (with_reducible first | exact HB.out | apply below_alloc | apply pw_below_drewN | apply below_drew1) | exact HB.out)) hb); clear HB; have HB := n0_; clear n0_; (try clear hb); (try clear hb2); (try clear hk); (try clear hi)) | ((with_reducible refine gate_dst (N := 3) rfl ?_); refine box_event ?hg (N := 3) ?hd (cs := #[.int .i64 0, .bool false, .bool false, .bool false]) (t := 23) ?hr ?_; (case hd => rfl); (case hg => rfl); (case hr => first | (go_simp; done) | (go_simp; rfl)); intro gb191 hg w8 hbox hb; have n0_ := Aside0.mk (below_step (by repeat (first | (with_reducible first | exact HB.out | apply below_alloc | apply pw_below_drewN | apply below_drew1) | exact HB.out)) hb); have n1_ := Aside0.mk (hbox); have n2_ := Aside0.mk ((by rw [hg]; exact (below_size (by repeat (first | (with_reducible first | exact HB.out | apply below_alloc | apply pw_below_drewN | apply below_drew1) | exact HB.out))) : w.heap.size ≤ gb191)); have n3_ := Aside0.mk ((by rw [hg]; exact (below_size (by repeat (first | (with_reducible first | exact HB.out | apply below_alloc | apply pw_below_drewN | apply below_drew1) | exact HB.out))) : w.heap.size ≤ gb191)); clear HB; have HB := n0_; have BK191 := n1_; have GW191 := n2_; have GE191 := n3_; clear n0_ n1_ n2_ n3_; clear hb hbox hg; have hcz9_0 : w8.cell? ⟨gb191, 0, none⟩ = some (.int .i64 0) := (blk_cell BK191.out 0).trans rfl; have hcz9_1 : w8.cell? ⟨gb191, 1, none⟩ = some (.bool false) := (blk_cell BK191.out 1).trans rfl; have hcz9_2 : w8.cell? ⟨gb191, 2, none⟩ = some (.bool false) := (blk_cell BK191.out 2).trans rfl; have hcz9_3 : w8.cell? ⟨gb191, 3, none⟩ = some (.bool false) := (blk_cell BK191.out 3).trans rfl; have hfz9_0 := blk_frozen BK191.out 0; have hfz9_1 := blk_frozen BK191.out 1; have hfz9_2 := blk_frozen BK191.out 2; have hfz9_3 := blk_frozen BK191.out 3) | ((with_reducible refine gate_callee (f := 19) rfl ?_); refine goesL_ (some 14) rfl rfl Tryd.func19 (by kernel_rfl) rfl #[.string a0] rfl (by (try simp only [List.map_toArray, List.map_cons, List.map_nil]); first | done | rfl | (simp only [List.length_drop, List.length_take]; rfl)) ?_; (with_reducible refine (stockyardref09_Parse.calls k a0 t192 t193 t194 t195 t196 _ A3.out).mono ?_); rintro e w10 ⟨rfl, hb⟩; refine ⟨_, rfl, ?_⟩; have n0_ := Aside0.mk (blk_below (g := gb191) (o := .cells #[.int .i64 t186, .bool t187, .bool t188, .bool t189] 23 (0, 0)) (by (with_reducible repeat (first | refine blk_drewN ?_ _ | refine blk_drew ?_ | refine blk_alloc ?_ _)); refine blk_put (cs := #[.int .i64 t186, .bool t187, .bool t188, .bool false]) ?_ 3 _ rfl; (with_reducible repeat (first | refine blk_drewN ?_ _ | refine blk_drew ?_ | refine blk_alloc ?_ _)); refine blk_put (cs := #[.int .i64 t186, .bool t187, .bool false, .bool false]) ?_ 2 _ rfl; (with_reducible repeat (first | refine blk_drewN ?_ _ | refine blk_drew ?_ | refine blk_alloc ?_ _)); refine blk_put (cs := #[.int .i64 t186, .bool false, .bool false, .bool false]) ?_ 1 _ rfl; (with_reducible repeat (first | refine blk_drewN ?_ _ | refine blk_drew ?_ | refine blk_alloc ?_ _)); refine blk_put (cs := #[.int .i64 0, .bool false, .bool false, .bool false]) ?_ 0 _ rfl; (with_reducible repeat (first | refine blk_drewN ?_ _ | refine blk_drew ?_ | refine blk_alloc ?_ _)); exact BK191.out) hb); have n1_ := Aside0.mk (below_step (by repeat (first | (with_reducible first | exact HB.out | apply below_alloc | apply pw_below_drewN | apply below_drew1 | refine below_set ?_ GE191.out) | exact HB.out)) hb); clear BK191; clear HB; have BK191 := n0_; have HB := n1_; clear n0_ n1_; (try clear hb); (try clear hb2); (try clear hk); (try clear hi)) | ((with_reducible refine gate_dst (N := 5) rfl ?_); refine box_event ?hg (N := 5) ?hd (cs := #[.int .i64 0, .bool false, .bool false, .bool false]) (t := 23) ?hr ?_; (case hd => rfl); (case hg => rfl); (case hr => first | (go_simp; done) | (go_simp; rfl)); intro gb197 hg w11 hbox hb; have n0_ := Aside0.mk (blk_below (g := gb191) (o := .cells #[.int .i64 t186, .bool t187, .bool t188, .bool t189] 23 (0, 0)) (by (with_reducible repeat (first | refine blk_drewN ?_ _ | refine blk_drew ?_ | refine blk_alloc ?_ _)); exact BK191.out) hb); have n1_ := Aside0.mk (below_step (by repeat (first | (with_reducible first | exact HB.out | apply below_alloc | apply pw_below_drewN | apply below_drew1 | refine below_set ?_ GE191.out) | exact HB.out)) hb); have n2_ := Aside0.mk (hbox); have n3_ := Aside0.mk ((by rw [hg]; exact (below_size (by repeat (first | (with_reducible first | exact HB.out | apply below_alloc | apply pw_below_drewN | apply below_drew1 | refine below_set ?_ GE191.out) | exact HB.out))) : w.heap.size ≤ gb197)); have n4_ := Aside0.mk ((by rw [hg]; exact (below_size (by repeat (first | (with_reducible first | exact HB.out | apply below_alloc | apply pw_below_drewN | apply below_drew1 | refine below_set ?_ GE191.out) | exact HB.out))) : w.heap.size ≤ gb197)); have n5_ := Aside0.mk ((by rw [hg]; exact Nat.ne_of_lt (blk_lt (g := gb191) (o := .cells #[.int .i64 t186, .bool t187, .bool t188, .bool t189] 23 (0, 0)) (by (with_reducible repeat (first | refine blk_drewN ?_ _ | refine blk_drew ?_ | refine blk_alloc ?_ _)); exact BK191.out)) : gb191 ≠ gb197)); have n6_ := Aside0.mk ((by rw [hg]; exact Nat.ne_of_gt (blk_lt (g := gb191) (o := .cells #[.int .i64 t186, .bool t187, .bool t188, .bool t189] 23 (0, 0)) (by (with_reducible repeat (first | refine blk_drewN ?_ _ | refine blk_drew ?_ | refine blk_alloc ?_ _)); exact BK191.out)) : gb197 ≠ gb191)); clear BK191; clear HB; have BK191 := n0_; have HB := n1_; have BK197 := n2_; have GW197 := n3_; have GE197 := n4_; have NB191_197 := n5_; have NB197_191 := n6_; clear n0_ n1_ n2_ n3_ n4_ n5_ n6_; clear hb hbox hg; have hnb12 := NB197_191.out; have hnc12 := NB191_197.out; have hcz13_0 : w11.cell? ⟨gb197, 0, none⟩ = some (.int .i64 0) := (blk_cell BK197.out 0).trans rfl; have hcz13_1 : w11.cell? ⟨gb197, 1, none⟩ = some (.bool false) := (blk_cell BK197.out 1).trans rfl; have hcz13_2 : w11.cell? ⟨gb197, 2, none⟩ = some (.bool false) := (blk_cell BK197.out 2).trans rfl; have hcz13_3 : w11.cell? ⟨gb197, 3, none⟩ = some (.bool false) := (blk_cell BK197.out 3).trans rfl; have hfz13_0 := blk_frozen BK197.out 0; have hfz13_1 := blk_frozen BK197.out 1; have hfz13_2 := blk_frozen BK197.out 2; have hfz13_3 := blk_frozen BK197.out 3; have hcz14_0 : w11.cell? ⟨gb191, 0, none⟩ = some (.int .i64 t186) := (blk_cell BK191.out 0).trans rfl; have hcz14_1 : w11.cell? ⟨gb191, 1, none⟩ = some (.bool t187) := (blk_cell BK191.out 1).trans rfl; have hcz14_2 : w11.cell? ⟨gb191, 2, none⟩ = some (.bool t188) := (blk_cell BK191.out 2).trans rfl; have hcz14_3 : w11.cell? ⟨gb191, 3, none⟩ = some (.bool t189) := (blk_cell BK191.out 3).trans rfl; have hfz14_0 := blk_frozen BK191.out 0; have hfz14_1 := blk_frozen BK191.out 1; have hfz14_2 := blk_frozen BK191.out 2; have hfz14_3 := blk_frozen BK191.out 3) | (go_at_call 16; (with_reducible refine (stockyardlaw09_awake.calls k  t198 _ A6.out).mono ?_); rintro e w15 ⟨rfl, hb⟩; have n0_ := Aside0.mk (blk_below (g := gb191) (o := .cells #[.int .i64 t186, .bool t187, .bool t188, .bool t189] 23 (0, 0)) (by (with_reducible repeat (first | refine blk_drewN ?_ _ | refine blk_drew ?_ | refine blk_alloc ?_ _)); refine blk_far ?_ NB191_197.out _; (with_reducible repeat (first | refine blk_drewN ?_ _ | refine blk_drew ?_ | refine blk_alloc ?_ _)); refine blk_far ?_ NB191_197.out _; (with_reducible repeat (first | refine blk_drewN ?_ _ | refine blk_drew ?_ | refine blk_alloc ?_ _)); refine blk_far ?_ NB191_197.out _; (with_reducible repeat (first | refine blk_drewN ?_ _ | refine blk_drew ?_ | refine blk_alloc ?_ _)); refine blk_far ?_ NB191_197.out _; (with_reducible repeat (first | refine blk_drewN ?_ _ | refine blk_drew ?_ | refine blk_alloc ?_ _)); exact BK191.out) hb); have n1_ := Aside0.mk (blk_below (g := gb197) (o := .cells #[.int .i64 t192, .bool t193, .bool t194, .bool t195] 23 (0, 0)) (by (with_reducible repeat (first | refine blk_drewN ?_ _ | refine blk_drew ?_ | refine blk_alloc ?_ _)); refine blk_put (cs := #[.int .i64 t192, .bool t193, .bool t194, .bool false]) ?_ 3 _ rfl; (with_reducible repeat (first | refine blk_drewN ?_ _ | refine blk_drew ?_ | refine blk_alloc ?_ _)); refine blk_put (cs := #[.int .i64 t192, .bool t193, .bool false, .bool false]) ?_ 2 _ rfl; (with_reducible repeat (first | refine blk_drewN ?_ _ | refine blk_drew ?_ | refine blk_alloc ?_ _)); refine blk_put (cs := #[.int .i64 t192, .bool false, .bool false, .bool false]) ?_ 1 _ rfl; (with_reducible repeat (first | refine blk_drewN ?_ _ | refine blk_drew ?_ | refine blk_alloc ?_ _)); refine blk_put (cs := #[.int .i64 0, .bool false, .bool false, .bool false]) ?_ 0 _ rfl; (with_reducible repeat (first | refine blk_drewN ?_ _ | refine blk_drew ?_ | refine blk_alloc ?_ _)); exact BK197.out) hb); have n2_ := Aside0.mk (below_step (by repeat (first | (with_reducible first | exact HB.out | apply below_alloc | apply pw_below_drewN | apply below_drew1 | refine below_set ?_ GE191.out | refine below_set ?_ GE197.out) | exact HB.out)) hb); clear BK191; clear BK197; clear HB; have BK191 := n0_; have BK197 := n1_; have HB := n2_; clear n0_ n1_ n2_; (try clear hb); (try clear hb2); (try clear hk); (try clear hi)))
      go_ret
      exact ⟨by first | rfl | (simp [errW_none, errW_some] <;> rfl) | (simp [*, errW_none, errW_some] <;> rfl), by repeat (first | (with_reducible first | exact HB.out | apply below_alloc | apply pw_below_drewN | apply below_drew1 | refine below_set ?_ GE191.out | refine below_set ?_ GE197.out) | exact HB.out)⟩
    · rw [if_neg c5] at H
      have c5b0 : (t190 == t196) = false := beq_eq_false_iff_ne.mpr c5
      have c5b1 : (t190 != t196) = true := bne_iff_ne.mpr c5
      obtain rfl := Option.some.inj H
      go_enter Tryd.func4, Tryd.ntmps4
      go_wp2_with (first | ((with_reducible refine gate_callee (f := 18) rfl ?_); refine goesL_ (some 9) rfl rfl Tryd.func18 (by kernel_rfl) rfl #[.string a0] rfl (by (try simp only [List.map_toArray, List.map_cons, List.map_nil]); first | done | rfl | (simp only [List.length_drop, List.length_take]; rfl)) ?_; (with_reducible refine (filetype_Parse.calls a0 t186 t187 t188 t189 t190 _ A2.out).mono ?_); rintro e w16 ⟨rfl, hb⟩; refine ⟨_, rfl, ?_⟩; have n0_ := Aside0.mk (below_step (by repeat (first | (with_reducible first | exact HB.out | apply below_alloc | apply pw_below_drewN | apply below_drew1) | exact HB.out)) hb); clear HB; have HB := n0_; clear n0_; (try clear hb); (try clear hb2); (try clear hk); (try clear hi)) | ((with_reducible refine gate_dst (N := 3) rfl ?_); refine box_event ?hg (N := 3) ?hd (cs := #[.int .i64 0, .bool false, .bool false, .bool false]) (t := 23) ?hr ?_; (case hd => rfl); (case hg => rfl); (case hr => first | (go_simp; done) | (go_simp; rfl)); intro gb191 hg w17 hbox hb; have n0_ := Aside0.mk (below_step (by repeat (first | (with_reducible first | exact HB.out | apply below_alloc | apply pw_below_drewN | apply below_drew1) | exact HB.out)) hb); have n1_ := Aside0.mk (hbox); have n2_ := Aside0.mk ((by rw [hg]; exact (below_size (by repeat (first | (with_reducible first | exact HB.out | apply below_alloc | apply pw_below_drewN | apply below_drew1) | exact HB.out))) : w.heap.size ≤ gb191)); have n3_ := Aside0.mk ((by rw [hg]; exact (below_size (by repeat (first | (with_reducible first | exact HB.out | apply below_alloc | apply pw_below_drewN | apply below_drew1) | exact HB.out))) : w.heap.size ≤ gb191)); clear HB; have HB := n0_; have BK191 := n1_; have GW191 := n2_; have GE191 := n3_; clear n0_ n1_ n2_ n3_; clear hb hbox hg; have hcz18_0 : w17.cell? ⟨gb191, 0, none⟩ = some (.int .i64 0) := (blk_cell BK191.out 0).trans rfl; have hcz18_1 : w17.cell? ⟨gb191, 1, none⟩ = some (.bool false) := (blk_cell BK191.out 1).trans rfl; have hcz18_2 : w17.cell? ⟨gb191, 2, none⟩ = some (.bool false) := (blk_cell BK191.out 2).trans rfl; have hcz18_3 : w17.cell? ⟨gb191, 3, none⟩ = some (.bool false) := (blk_cell BK191.out 3).trans rfl; have hfz18_0 := blk_frozen BK191.out 0; have hfz18_1 := blk_frozen BK191.out 1; have hfz18_2 := blk_frozen BK191.out 2; have hfz18_3 := blk_frozen BK191.out 3) | ((with_reducible refine gate_callee (f := 19) rfl ?_); refine goesL_ (some 14) rfl rfl Tryd.func19 (by kernel_rfl) rfl #[.string a0] rfl (by (try simp only [List.map_toArray, List.map_cons, List.map_nil]); first | done | rfl | (simp only [List.length_drop, List.length_take]; rfl)) ?_; (with_reducible refine (stockyardref09_Parse.calls k a0 t192 t193 t194 t195 t196 _ A3.out).mono ?_); rintro e w19 ⟨rfl, hb⟩; refine ⟨_, rfl, ?_⟩; have n0_ := Aside0.mk (blk_below (g := gb191) (o := .cells #[.int .i64 t186, .bool t187, .bool t188, .bool t189] 23 (0, 0)) (by (with_reducible repeat (first | refine blk_drewN ?_ _ | refine blk_drew ?_ | refine blk_alloc ?_ _)); refine blk_put (cs := #[.int .i64 t186, .bool t187, .bool t188, .bool false]) ?_ 3 _ rfl; (with_reducible repeat (first | refine blk_drewN ?_ _ | refine blk_drew ?_ | refine blk_alloc ?_ _)); refine blk_put (cs := #[.int .i64 t186, .bool t187, .bool false, .bool false]) ?_ 2 _ rfl; (with_reducible repeat (first | refine blk_drewN ?_ _ | refine blk_drew ?_ | refine blk_alloc ?_ _)); refine blk_put (cs := #[.int .i64 t186, .bool false, .bool false, .bool false]) ?_ 1 _ rfl; (with_reducible repeat (first | refine blk_drewN ?_ _ | refine blk_drew ?_ | refine blk_alloc ?_ _)); refine blk_put (cs := #[.int .i64 0, .bool false, .bool false, .bool false]) ?_ 0 _ rfl; (with_reducible repeat (first | refine blk_drewN ?_ _ | refine blk_drew ?_ | refine blk_alloc ?_ _)); exact BK191.out) hb); have n1_ := Aside0.mk (below_step (by repeat (first | (with_reducible first | exact HB.out | apply below_alloc | apply pw_below_drewN | apply below_drew1 | refine below_set ?_ GE191.out) | exact HB.out)) hb); clear BK191; clear HB; have BK191 := n0_; have HB := n1_; clear n0_ n1_; (try clear hb); (try clear hb2); (try clear hk); (try clear hi)) | ((with_reducible refine gate_dst (N := 5) rfl ?_); refine box_event ?hg (N := 5) ?hd (cs := #[.int .i64 0, .bool false, .bool false, .bool false]) (t := 23) ?hr ?_; (case hd => rfl); (case hg => rfl); (case hr => first | (go_simp; done) | (go_simp; rfl)); intro gb197 hg w20 hbox hb; have n0_ := Aside0.mk (blk_below (g := gb191) (o := .cells #[.int .i64 t186, .bool t187, .bool t188, .bool t189] 23 (0, 0)) (by (with_reducible repeat (first | refine blk_drewN ?_ _ | refine blk_drew ?_ | refine blk_alloc ?_ _)); exact BK191.out) hb); have n1_ := Aside0.mk (below_step (by repeat (first | (with_reducible first | exact HB.out | apply below_alloc | apply pw_below_drewN | apply below_drew1 | refine below_set ?_ GE191.out) | exact HB.out)) hb); have n2_ := Aside0.mk (hbox); have n3_ := Aside0.mk ((by rw [hg]; exact (below_size (by repeat (first | (with_reducible first | exact HB.out | apply below_alloc | apply pw_below_drewN | apply below_drew1 | refine below_set ?_ GE191.out) | exact HB.out))) : w.heap.size ≤ gb197)); have n4_ := Aside0.mk ((by rw [hg]; exact (below_size (by repeat (first | (with_reducible first | exact HB.out | apply below_alloc | apply pw_below_drewN | apply below_drew1 | refine below_set ?_ GE191.out) | exact HB.out))) : w.heap.size ≤ gb197)); have n5_ := Aside0.mk ((by rw [hg]; exact Nat.ne_of_lt (blk_lt (g := gb191) (o := .cells #[.int .i64 t186, .bool t187, .bool t188, .bool t189] 23 (0, 0)) (by (with_reducible repeat (first | refine blk_drewN ?_ _ | refine blk_drew ?_ | refine blk_alloc ?_ _)); exact BK191.out)) : gb191 ≠ gb197)); have n6_ := Aside0.mk ((by rw [hg]; exact Nat.ne_of_gt (blk_lt (g := gb191) (o := .cells #[.int .i64 t186, .bool t187, .bool t188, .bool t189] 23 (0, 0)) (by (with_reducible repeat (first | refine blk_drewN ?_ _ | refine blk_drew ?_ | refine blk_alloc ?_ _)); exact BK191.out)) : gb197 ≠ gb191)); clear BK191; clear HB; have BK191 := n0_; have HB := n1_; have BK197 := n2_; have GW197 := n3_; have GE197 := n4_; have NB191_197 := n5_; have NB197_191 := n6_; clear n0_ n1_ n2_ n3_ n4_ n5_ n6_; clear hb hbox hg; have hnb21 := NB197_191.out; have hnc21 := NB191_197.out; have hcz22_0 : w20.cell? ⟨gb197, 0, none⟩ = some (.int .i64 0) := (blk_cell BK197.out 0).trans rfl; have hcz22_1 : w20.cell? ⟨gb197, 1, none⟩ = some (.bool false) := (blk_cell BK197.out 1).trans rfl; have hcz22_2 : w20.cell? ⟨gb197, 2, none⟩ = some (.bool false) := (blk_cell BK197.out 2).trans rfl; have hcz22_3 : w20.cell? ⟨gb197, 3, none⟩ = some (.bool false) := (blk_cell BK197.out 3).trans rfl; have hfz22_0 := blk_frozen BK197.out 0; have hfz22_1 := blk_frozen BK197.out 1; have hfz22_2 := blk_frozen BK197.out 2; have hfz22_3 := blk_frozen BK197.out 3; have hcz23_0 : w20.cell? ⟨gb191, 0, none⟩ = some (.int .i64 t186) := (blk_cell BK191.out 0).trans rfl; have hcz23_1 : w20.cell? ⟨gb191, 1, none⟩ = some (.bool t187) := (blk_cell BK191.out 1).trans rfl; have hcz23_2 : w20.cell? ⟨gb191, 2, none⟩ = some (.bool t188) := (blk_cell BK191.out 2).trans rfl; have hcz23_3 : w20.cell? ⟨gb191, 3, none⟩ = some (.bool t189) := (blk_cell BK191.out 3).trans rfl; have hfz23_0 := blk_frozen BK191.out 0; have hfz23_1 := blk_frozen BK191.out 1; have hfz23_2 := blk_frozen BK191.out 2; have hfz23_3 := blk_frozen BK191.out 3))
      go_ret
      exact ⟨by first | rfl | (simp [errW_none, errW_some] <;> rfl) | (simp [*, errW_none, errW_some] <;> rfl), by repeat (first | (with_reducible first | exact HB.out | apply below_alloc | apply pw_below_drewN | apply below_drew1 | refine below_set ?_ GE191.out | refine below_set ?_ GE197.out) | exact HB.out)⟩
  · rw [if_neg c4] at H
    have c4b0 : (t186 == t192 && (t187 == t193 && (t188 == t194 && (t189 == t195)))) = false := by simpa using c4
    (try (have c4b1 : decide (t186 = t192 && (t187 == t193 && (t188 == t194 && (t189 == t195)))) = false := by simpa using c4))
    (try (have c4b2 : (t186 == t192 && (t187 == t193 && (t188 == t194 && (t189 == t195)))) = false := by simpa using c4))
    (try (have c4b3 : ¬ (t186 = t192 && (t187 == t193 && (t188 == t194 && (t189 == t195)))) := by simpa using c4))
    clear c4
    obtain rfl := Option.some.inj H
    go_enter Tryd.func4, Tryd.ntmps4
    go_wp2_with (first | ((with_reducible refine gate_callee (f := 18) rfl ?_); refine goesL_ (some 9) rfl rfl Tryd.func18 (by kernel_rfl) rfl #[.string a0] rfl (by (try simp only [List.map_toArray, List.map_cons, List.map_nil]); first | done | rfl | (simp only [List.length_drop, List.length_take]; rfl)) ?_; (with_reducible refine (filetype_Parse.calls a0 t186 t187 t188 t189 t190 _ A2.out).mono ?_); rintro e w24 ⟨rfl, hb⟩; refine ⟨_, rfl, ?_⟩; have n0_ := Aside0.mk (below_step (by repeat (first | (with_reducible first | exact HB.out | apply below_alloc | apply pw_below_drewN | apply below_drew1) | exact HB.out)) hb); clear HB; have HB := n0_; clear n0_; (try clear hb); (try clear hb2); (try clear hk); (try clear hi)) | ((with_reducible refine gate_dst (N := 3) rfl ?_); refine box_event ?hg (N := 3) ?hd (cs := #[.int .i64 0, .bool false, .bool false, .bool false]) (t := 23) ?hr ?_; (case hd => rfl); (case hg => rfl); (case hr => first | (go_simp; done) | (go_simp; rfl)); intro gb191 hg w25 hbox hb; have n0_ := Aside0.mk (below_step (by repeat (first | (with_reducible first | exact HB.out | apply below_alloc | apply pw_below_drewN | apply below_drew1) | exact HB.out)) hb); have n1_ := Aside0.mk (hbox); have n2_ := Aside0.mk ((by rw [hg]; exact (below_size (by repeat (first | (with_reducible first | exact HB.out | apply below_alloc | apply pw_below_drewN | apply below_drew1) | exact HB.out))) : w.heap.size ≤ gb191)); have n3_ := Aside0.mk ((by rw [hg]; exact (below_size (by repeat (first | (with_reducible first | exact HB.out | apply below_alloc | apply pw_below_drewN | apply below_drew1) | exact HB.out))) : w.heap.size ≤ gb191)); clear HB; have HB := n0_; have BK191 := n1_; have GW191 := n2_; have GE191 := n3_; clear n0_ n1_ n2_ n3_; clear hb hbox hg; have hcz26_0 : w25.cell? ⟨gb191, 0, none⟩ = some (.int .i64 0) := (blk_cell BK191.out 0).trans rfl; have hcz26_1 : w25.cell? ⟨gb191, 1, none⟩ = some (.bool false) := (blk_cell BK191.out 1).trans rfl; have hcz26_2 : w25.cell? ⟨gb191, 2, none⟩ = some (.bool false) := (blk_cell BK191.out 2).trans rfl; have hcz26_3 : w25.cell? ⟨gb191, 3, none⟩ = some (.bool false) := (blk_cell BK191.out 3).trans rfl; have hfz26_0 := blk_frozen BK191.out 0; have hfz26_1 := blk_frozen BK191.out 1; have hfz26_2 := blk_frozen BK191.out 2; have hfz26_3 := blk_frozen BK191.out 3) | ((with_reducible refine gate_callee (f := 19) rfl ?_); refine goesL_ (some 14) rfl rfl Tryd.func19 (by kernel_rfl) rfl #[.string a0] rfl (by (try simp only [List.map_toArray, List.map_cons, List.map_nil]); first | done | rfl | (simp only [List.length_drop, List.length_take]; rfl)) ?_; (with_reducible refine (stockyardref09_Parse.calls k a0 t192 t193 t194 t195 t196 _ A3.out).mono ?_); rintro e w27 ⟨rfl, hb⟩; refine ⟨_, rfl, ?_⟩; have n0_ := Aside0.mk (blk_below (g := gb191) (o := .cells #[.int .i64 t186, .bool t187, .bool t188, .bool t189] 23 (0, 0)) (by (with_reducible repeat (first | refine blk_drewN ?_ _ | refine blk_drew ?_ | refine blk_alloc ?_ _)); refine blk_put (cs := #[.int .i64 t186, .bool t187, .bool t188, .bool false]) ?_ 3 _ rfl; (with_reducible repeat (first | refine blk_drewN ?_ _ | refine blk_drew ?_ | refine blk_alloc ?_ _)); refine blk_put (cs := #[.int .i64 t186, .bool t187, .bool false, .bool false]) ?_ 2 _ rfl; (with_reducible repeat (first | refine blk_drewN ?_ _ | refine blk_drew ?_ | refine blk_alloc ?_ _)); refine blk_put (cs := #[.int .i64 t186, .bool false, .bool false, .bool false]) ?_ 1 _ rfl; (with_reducible repeat (first | refine blk_drewN ?_ _ | refine blk_drew ?_ | refine blk_alloc ?_ _)); refine blk_put (cs := #[.int .i64 0, .bool false, .bool false, .bool false]) ?_ 0 _ rfl; (with_reducible repeat (first | refine blk_drewN ?_ _ | refine blk_drew ?_ | refine blk_alloc ?_ _)); exact BK191.out) hb); have n1_ := Aside0.mk (below_step (by repeat (first | (with_reducible first | exact HB.out | apply below_alloc | apply pw_below_drewN | apply below_drew1 | refine below_set ?_ GE191.out) | exact HB.out)) hb); clear BK191; clear HB; have BK191 := n0_; have HB := n1_; clear n0_ n1_; (try clear hb); (try clear hb2); (try clear hk); (try clear hi)) | ((with_reducible refine gate_dst (N := 5) rfl ?_); refine box_event ?hg (N := 5) ?hd (cs := #[.int .i64 0, .bool false, .bool false, .bool false]) (t := 23) ?hr ?_; (case hd => rfl); (case hg => rfl); (case hr => first | (go_simp; done) | (go_simp; rfl)); intro gb197 hg w28 hbox hb; have n0_ := Aside0.mk (blk_below (g := gb191) (o := .cells #[.int .i64 t186, .bool t187, .bool t188, .bool t189] 23 (0, 0)) (by (with_reducible repeat (first | refine blk_drewN ?_ _ | refine blk_drew ?_ | refine blk_alloc ?_ _)); exact BK191.out) hb); have n1_ := Aside0.mk (below_step (by repeat (first | (with_reducible first | exact HB.out | apply below_alloc | apply pw_below_drewN | apply below_drew1 | refine below_set ?_ GE191.out) | exact HB.out)) hb); have n2_ := Aside0.mk (hbox); have n3_ := Aside0.mk ((by rw [hg]; exact (below_size (by repeat (first | (with_reducible first | exact HB.out | apply below_alloc | apply pw_below_drewN | apply below_drew1 | refine below_set ?_ GE191.out) | exact HB.out))) : w.heap.size ≤ gb197)); have n4_ := Aside0.mk ((by rw [hg]; exact (below_size (by repeat (first | (with_reducible first | exact HB.out | apply below_alloc | apply pw_below_drewN | apply below_drew1 | refine below_set ?_ GE191.out) | exact HB.out))) : w.heap.size ≤ gb197)); have n5_ := Aside0.mk ((by rw [hg]; exact Nat.ne_of_lt (blk_lt (g := gb191) (o := .cells #[.int .i64 t186, .bool t187, .bool t188, .bool t189] 23 (0, 0)) (by (with_reducible repeat (first | refine blk_drewN ?_ _ | refine blk_drew ?_ | refine blk_alloc ?_ _)); exact BK191.out)) : gb191 ≠ gb197)); have n6_ := Aside0.mk ((by rw [hg]; exact Nat.ne_of_gt (blk_lt (g := gb191) (o := .cells #[.int .i64 t186, .bool t187, .bool t188, .bool t189] 23 (0, 0)) (by (with_reducible repeat (first | refine blk_drewN ?_ _ | refine blk_drew ?_ | refine blk_alloc ?_ _)); exact BK191.out)) : gb197 ≠ gb191)); clear BK191; clear HB; have BK191 := n0_; have HB := n1_; have BK197 := n2_; have GW197 := n3_; have GE197 := n4_; have NB191_197 := n5_; have NB197_191 := n6_; clear n0_ n1_ n2_ n3_ n4_ n5_ n6_; clear hb hbox hg; have hnb29 := NB197_191.out; have hnc29 := NB191_197.out; have hcz30_0 : w28.cell? ⟨gb197, 0, none⟩ = some (.int .i64 0) := (blk_cell BK197.out 0).trans rfl; have hcz30_1 : w28.cell? ⟨gb197, 1, none⟩ = some (.bool false) := (blk_cell BK197.out 1).trans rfl; have hcz30_2 : w28.cell? ⟨gb197, 2, none⟩ = some (.bool false) := (blk_cell BK197.out 2).trans rfl; have hcz30_3 : w28.cell? ⟨gb197, 3, none⟩ = some (.bool false) := (blk_cell BK197.out 3).trans rfl; have hfz30_0 := blk_frozen BK197.out 0; have hfz30_1 := blk_frozen BK197.out 1; have hfz30_2 := blk_frozen BK197.out 2; have hfz30_3 := blk_frozen BK197.out 3; have hcz31_0 : w28.cell? ⟨gb191, 0, none⟩ = some (.int .i64 t186) := (blk_cell BK191.out 0).trans rfl; have hcz31_1 : w28.cell? ⟨gb191, 1, none⟩ = some (.bool t187) := (blk_cell BK191.out 1).trans rfl; have hcz31_2 : w28.cell? ⟨gb191, 2, none⟩ = some (.bool t188) := (blk_cell BK191.out 2).trans rfl; have hcz31_3 : w28.cell? ⟨gb191, 3, none⟩ = some (.bool t189) := (blk_cell BK191.out 3).trans rfl; have hfz31_0 := blk_frozen BK191.out 0; have hfz31_1 := blk_frozen BK191.out 1; have hfz31_2 := blk_frozen BK191.out 2; have hfz31_3 := blk_frozen BK191.out 3))
    go_ret
    exact ⟨by first | rfl | (simp [errW_none, errW_some] <;> rfl) | (simp [*, errW_none, errW_some] <;> rfl), by repeat (first | (with_reducible first | exact HB.out | apply below_alloc | apply pw_below_drewN | apply below_drew1 | refine below_set ?_ GE191.out | refine below_set ?_ GE197.out) | exact HB.out)⟩

/-! ### stockyardlaw09_FiletypeAll: function 5: an external -/
set_option maxRecDepth 100000
def allC : List S23 := (stockyardref09_All.f 60).getD []
def txtC (i : Nat) : ByteArray := fmtT (rd_T23 allC (i : Int)).f0 (rd_T23 allC (i : Int)).f1 (rd_T23 allC (i : Int)).f2 (rd_T23 allC (i : Int)).f3
def esA : Nat → Array MapEntry
  | 0 => #[]
  | n + 1 => (esA n).push { key := .string (txtC n), val := .bool true, born := n }
theorem allC_length : allC.length = 14 := by kernel_rfl
theorem esA_size : ∀ n, (esA n).size = n
  | 0 => rfl
  | n + 1 => by rw [esA, Array.size_push, esA_size n]
theorem esA_find (i : Nat) (h : i < 14) : Instr.findNow .string (.string (txtC i)) (esA i).toList 0 = some none := by
  have e : (List.range 14).all (fun i => match Instr.findNow .string (.string (txtC i)) (esA i).toList 0 with | some none => true | _ => false) = true := by kernel_rfl
  have e1 := List.all_eq_true.1 e i (List.mem_range.2 h)
  cases hf : Instr.findNow .string (.string (txtC i)) (esA i).toList 0 with
  | none => rw [hf] at e1; cases e1
  | some a =>
    cases a with
    | none => rfl
    | some a => rw [hf] at e1; cases e1
theorem allC_format (i : Nat) (h : i < 14) : filetype_Format.f (rd_T23 allC (i : Int)).f0 (rd_T23 allC (i : Int)).f1 (rd_T23 allC (i : Int)).f2 (rd_T23 allC (i : Int)).f3 = some (txtC i, 0) := by
  have e : (List.range 14).all (fun i => decide (filetype_Format.f (rd_T23 allC (i : Int)).f0 (rd_T23 allC (i : Int)).f1 (rd_T23 allC (i : Int)).f2 (rd_T23 allC (i : Int)).f3 = some (txtC i, 0))) = true := by kernel_rfl
  exact of_decide_eq_true (List.all_eq_true.1 e i (List.mem_range.2 h))
theorem allC_parse (i : Nat) (h : i < 14) : filetype_Parse.f (txtC i) = some ((rd_T23 allC (i : Int)).f0, (rd_T23 allC (i : Int)).f1, (rd_T23 allC (i : Int)).f2, (rd_T23 allC (i : Int)).f3, 0) := by
  have e : (List.range 14).all (fun i => decide (filetype_Parse.f (txtC i) = some ((rd_T23 allC (i : Int)).f0, (rd_T23 allC (i : Int)).f1, (rd_T23 allC (i : Int)).f2, (rd_T23 allC (i : Int)).f3, 0))) = true := by kernel_rfl
  exact of_decide_eq_true (List.all_eq_true.1 e i (List.mem_range.2 h))
theorem kept_T23 {w1 wr : World} {ga : Nat} {cur : Array Value} {n : Nat} {xs : List S23} (h : Kd.C k23 w1 (some ⟨ga, 0, none⟩) n xs) (h1 : w1.heap[ga]? = some (.cells cur 23 (0, 0))) (h2 : wr.heap[ga]? = some (.cells cur 23 (0, 0))) (i : Int) (h0 : 0 ≤ i) (hn : i < n) :
    wr.cell? ⟨ga, i.toNat * 4, none⟩ = some (.int .i64 (rd_T23 xs i).f0) ∧ wr.cell? ⟨ga, i.toNat * 4 + 1, none⟩ = some (.bool (rd_T23 xs i).f1) ∧ wr.cell? ⟨ga, i.toNat * 4 + 2, none⟩ = some (.bool (rd_T23 xs i).f2) ∧ wr.cell? ⟨ga, i.toNat * 4 + 3, none⟩ = some (.bool (rd_T23 xs i).f3) := by
  obtain ⟨ad, e, c0, c1, c2, c3⟩ := at_T23 h i h0 hn
  injection e with e
  subst e
  simp only [Go.Proofs.YtolmcdglemkchaaDoorW.PrintWords.add_plain] at c0 c1 c2 c3
  rw [blk_cell h1] at c0 c1 c2 c3
  rw [blk_cell h2, blk_cell h2, blk_cell h2, blk_cell h2]
  exact ⟨c0, c1, c2, c3⟩
theorem len14 (gm : Nat) (W : World) (h : W.heap[gm]? = some (.map (esA 14) 14)) : (Builtin.len_ #[34] 3 #[.map (some gm)]).run Tryd.prog W = .ok (.int .i64 14) W := by
  have hm := Tryd.underlying34
  have hz := esA_size 14
  simp [Builtin.len_, run_underlying hm, MapKept.run_getObj_map h, hz, goInt, Result.andThen, go_sem]
theorem wrap64_id' {x : Int} (h1 : -9223372036854775808 ≤ x) (h2 : x ≤ 9223372036854775807) : wrap64 x = x := by
  unfold wrap64
  omega
theorem run_lookup_none {s : ByteArray} {es : Array MapEntry} {n : Nat} (g : Nat) (W : World) (hf : Instr.findNow .string (.string s) es.toList 0 = some none) (h : W.heap[g]? = some (.map es n)) : (Instr.lookup 34 (.map (some g)) (.string s) false).run Tryd.prog W = .ok (.bool false) W := by
  have hm := Tryd.underlying34
  have hk := Tryd.underlying9
  have hi : (Tryd.prog.info? 4).map (·.zero) = some (some (.bool false)) := by kernel_rfl
  obtain ⟨i, hi1, hi2⟩ := Option.map_eq_some_iff.1 hi
  have hc : ∀ b, (Instr.checkKey b 10000 9 (.string s)).run Tryd.prog W = .ok () W := fun b => MapKept.run_checkKey (k := .string s) hk (by simp [MapKept.IsKey]) b 9999
  have hf2 := MapKept.run_findKey (w := W) hk hf
  simp [Instr.lookup, run_underlying hm, MapKept.run_getObj_map h, hc, hf2, zeroValue, typeInfo, hi1, hi2, Result.andThen, go_sem]
theorem setBlock_grown {W : World} {b : Nat} {o : Obj} : ∀ k, k ≠ b → (Go.ChangeMaps.setBlock W b o).heap[k]? = W.heap[k]? := fun k hk => setBlock_far (Ne.symm hk)
theorem wpList_update_at {P : Program} {w0 w : World} {ops : Array Oper} {rest : List Oper} {o : Oper} {a : Act} {Q : Exit → Act → World → Prop} (hg : o.guard = none) (t : TypeId) (m k x : Operand) (s : ByteArray) (val : Value) (hop : o.op = .mapUpdate t m k x)
    (kt et : TypeId) (ht : P.underlying t = some (.map kt et)) (hk : P.underlying kt = some .string) (b clock B : Nat) (es es' : Array MapEntry) (hm : a.eval m = .map (some b)) (hks : a.eval k = .string s) (hxv : a.eval x = val) (hb : w.heap[b]? = some (.map es clock)) (hf : Instr.findNow .string (.string s) es.toList 0 = some none)
    (he : es.push { key := .string s, val := val, born := clock } = es') (hB : B ≤ b) (hw : Below B w0 w)
    (hK : ∀ w', w'.heap[b]? = some (.map es' (clock + 1)) → (∀ k, k ≠ b → w'.heap[k]? = w.heap[k]?) → Below B w0 w' → wpList P ops Q rest (a.put o.dst undef) w') : wpList P ops Q (o :: rest) a w := by
  refine wpList_plain hg fun K' hK' => ?_
  have hrun := run_insert (P := P) w t kt et b clock es es' s val ht hk hb hf he
  unfold Oper.wp
  simp [execOp, hop, hm, hks, hxv, hrun, Result.andThen]
  exact hK' _ _ (hK _ (setBlock_at hb) setBlock_grown (setBlock_below hw hB _))
def stockyardlaw09_FiletypeAll.f (k : Nat) : Option Bool := some true
theorem allC_all : stockyardref09_All.f 60 = some allC := by kernel_rfl
theorem allC_awake : stockyardlaw09_awake.f 60 = some true := by kernel_rfl
set_option maxHeartbeats 8000000 in
theorem stockyardlaw09_FiletypeAll.calls (k : Nat) (r : Bool) (w : World) (h : stockyardlaw09_FiletypeAll.f k = some r) :
    Calls Tryd.prog 5 #[] w fun e w' => e = .returned (.bool r) ∧ Below w.heap.size w w' := by
  have h := Option.some.inj (show some true = some r from h)
  subst h
  have hu23 := Tryd.underlying23
  have hu34 := Tryd.underlying34
  have hmm := @run_makeMap Tryd.prog
  have hb0 : (w.alloc (.map #[] 0)).heap[w.heap.size]? = some (.map #[] 0) := heap_alloc_new w _
  have hl0 : Below w.heap.size w (w.alloc (.map #[] 0)) := below_alloc (Below.refl _ _) _
  have BM0 := Aside0.mk hb0
  have HB0 := Aside0.mk hl0
  clear hb0 hl0
  obtain ⟨gm, hgm⟩ : ∃ g, g = w.heap.size := ⟨_, rfl⟩
  go_enter Tryd.func5, Tryd.ntmps5
  go_wp2_with fail
  refine (stockyardref09_All.calls 60 allC _ allC_all).mono ?_
  rintro e w1 ⟨v, rfl, ho, hb⟩
  have BM1 := Aside0.mk (blk_below (g := w.heap.size) (o := (.map #[] 0)) BM0.out hb)
  have HB1 := Aside0.mk (below_step (by repeat (first | (with_reducible first | exact HB0.out | apply below_alloc | apply pw_below_drewN | apply below_drew1) | exact HB0.out)) hb)
  have HO := Aside0.mk ho
  have hgl : w.heap.size < (w.alloc (.map #[] 0)).heap.size := by simp
  have HGL := Aside0.mk hgl
  obtain ⟨A, c, hv⟩ := Kd.R_slice ho
  subst hv
  rw [allC_length]
  clear ho hb hgl
  go_wp2
  have hrd : Kd.C k23 w1 A allC.length allC := (Kd.R_reads' HO.out).2.2
  obtain ⟨hok, inner, hown, hr⟩ := HO.out
  rcases hown.2 with ⟨hv, hn⟩ | ⟨ga, cap, cur, hv, hbg, hh, hnc, hmx, hsz, htk⟩
  · exact absurd hn (by rw [allC_length]; decide)
  injection hv with e1 e2 e3
  subst e1
  subst e3
  have hne : gm ≠ ga := by have := HGL.out; omega
  have hge : w.heap.size ≤ gm := by omega
  have HNE := Aside0.mk hne
  have HGE := Aside0.mk hge
  have HRD := Aside0.mk hrd
  have BA1 := Aside0.mk hh
  rw [← hgm] at BM1
  simp only [← hgm]
  clear hrd hok hown hr hbg hh hnc hmx hsz htk hne hge HO HGL BM0 HB0 hgm inner
  go_loopg [11] 20 (fun kq v11 w' => ∃ x : Int, v11 = .int .i64 x ∧ Aside0 (19 < (kq : Int) + x ∧ 0 ≤ x ∧ x ≤ 14) ∧ Aside0 (w'.heap[gm]? = some (.map (esA x.toNat) x.toNat)) ∧ Aside0 (w'.heap[ga]? = some (.cells cur 23 (0, 0))) ∧ Aside0 (Below w.heap.size w w'))
  case atStart => exact ⟨0, rfl, ⟨by omega⟩, BM1, BA1, HB1⟩
  case round =>
    clear BM1 HB1
    obtain ⟨x, rfl, HI, BM, BA, HB⟩ := hrel
    cases gk with
    | zero => exact absurd HI.out (by omega)
    | succ k2 =>
      obtain ⟨hk, h0, h14⟩ := HI.out
      clear HI
      by_cases hx : x < 14
      · have hi : x.toNat < 14 := by omega
        have hxi : (x.toNat : Int) = x := Int.toNat_of_nonneg h0
        have fF := allC_format x.toNat hi
        have fP := allC_parse x.toNat hi
        rw [hxi] at fF fP
        obtain ⟨hx0, hx1, hx2, hx3⟩ := kept_T23 HRD.out BA1.out BA.out x h0 (by rw [allC_length]; exact hx)
        generalize (rd_T23 allC x).f0 = b at *
        generalize (rd_T23 allC x).f1 = kk at *
        generalize (rd_T23 allC x).f2 = ll at *
        generalize (rd_T23 allC x).f3 = mm at *
        have he : (esA x.toNat).push { key := .string (txtC x.toNat), val := .bool true, born := x.toNat } = esA (x.toNat + 1) := rfl
        have fN := esA_find x.toNat hi
        generalize txtC x.toNat = s at *
        have HF := Aside0.mk fF
        have HP := Aside0.mk fP
        have HN := Aside0.mk fN
        have HE := Aside0.mk he
        have d1 : decide (x < 14) = true := decide_eq_true hx
        have p1 := eq_true h0
        have q1 : (x < ((14 : Nat) : Int)) = True := eq_true hx
        have q2 : (x < 14) = True := eq_true hx
        have HK := Aside0.mk hk
        clear fF fP fN he hi hxi hk
        go_wp2_with (first
          | (go_at_call 13; go_loud (refine (filetype_Format.calls b kk ll mm s 0 _ HF.out).mono ?_; rintro e w2 ⟨rfl, hb⟩; have BT2 := Aside0.mk (blk_below (g := wr.heap.size) (o := (.cells #[.int .i64 b, .bool kk, .bool ll, .bool mm] 23)) (heap_alloc_new wr _) hb); have BM2 := Aside0.mk (blk_below (g := gm) (o := (.map (esA x.toNat) x.toNat)) (by (with_reducible repeat (first | refine blk_drewN ?_ _ | refine blk_drew ?_ | refine blk_alloc ?_ _)); exact BM.out) hb); have BA2 := Aside0.mk (blk_below (g := ga) (o := (.cells cur 23 (0, 0))) (by (with_reducible repeat (first | refine blk_drewN ?_ _ | refine blk_drew ?_ | refine blk_alloc ?_ _)); exact BA.out) hb); have HB2 := Aside0.mk (below_step (by repeat (first | (with_reducible first | exact HB.out | apply below_alloc | apply pw_below_drewN | apply below_drew1) | exact HB.out)) hb); clear hb))
          | (go_at_call 18; go_loud (refine (filetype_Parse.calls s b kk ll mm 0 _ HP.out).mono ?_; rintro e w3 ⟨rfl, hb⟩; have BT3 := Aside0.mk (blk_below (g := wr.heap.size) (o := (.cells #[.int .i64 b, .bool kk, .bool ll, .bool mm] 23)) (by (with_reducible repeat (first | refine blk_drewN ?_ _ | refine blk_drew ?_ | refine blk_alloc ?_ _)); exact BT2.out) hb); have BM3 := Aside0.mk (blk_below (g := gm) (o := (.map (esA x.toNat) x.toNat)) (by (with_reducible repeat (first | refine blk_drewN ?_ _ | refine blk_drew ?_ | refine blk_alloc ?_ _)); exact BM2.out) hb); have BA3 := Aside0.mk (blk_below (g := ga) (o := (.cells cur 23 (0, 0))) (by (with_reducible repeat (first | refine blk_drewN ?_ _ | refine blk_drew ?_ | refine blk_alloc ?_ _)); exact BA2.out) hb); have HB3 := Aside0.mk (below_step (by repeat (first | (with_reducible first | exact HB2.out | apply below_alloc | apply pw_below_drewN | apply below_drew1) | exact HB2.out)) hb); clear hb; have t0 : (w3.alloc (.cells #[.int .i64 b, .bool kk, .bool ll, .bool mm] 23)).cell? ⟨wr.heap.size, 0, none⟩ = some (.int .i64 b) := (blk_cell (blk_alloc BT3.out _) 0).trans rfl; have u0_ : w3.cell? ⟨wr.heap.size, 0, none⟩ = some (.int .i64 b) := (blk_cell BT3.out 0).trans rfl; have t1 : (w3.alloc (.cells #[.int .i64 b, .bool kk, .bool ll, .bool mm] 23)).cell? ⟨wr.heap.size, 1, none⟩ = some (.bool kk) := (blk_cell (blk_alloc BT3.out _) 1).trans rfl; have u1_ : w3.cell? ⟨wr.heap.size, 1, none⟩ = some (.bool kk) := (blk_cell BT3.out 1).trans rfl; have t2 : (w3.alloc (.cells #[.int .i64 b, .bool kk, .bool ll, .bool mm] 23)).cell? ⟨wr.heap.size, 2, none⟩ = some (.bool ll) := (blk_cell (blk_alloc BT3.out _) 2).trans rfl; have u2_ : w3.cell? ⟨wr.heap.size, 2, none⟩ = some (.bool ll) := (blk_cell BT3.out 2).trans rfl; have t3 : (w3.alloc (.cells #[.int .i64 b, .bool kk, .bool ll, .bool mm] 23)).cell? ⟨wr.heap.size, 3, none⟩ = some (.bool mm) := (blk_cell (blk_alloc BT3.out _) 3).trans rfl; have u3_ : w3.cell? ⟨wr.heap.size, 3, none⟩ = some (.bool mm) := (blk_cell BT3.out 3).trans rfl; have hlk := run_lookup_none gm (w3.alloc (.cells #[.int .i64 b, .bool kk, .bool ll, .bool mm] 23)) HN.out (blk_alloc BM3.out _); have hup := run_insert (P := Tryd.prog) (w3.alloc (.cells #[.int .i64 b, .bool kk, .bool ll, .bool mm] 23)) 34 9 4 gm x.toNat (esA x.toNat) (esA (x.toNat + 1)) s (.bool true) Tryd.underlying34 Tryd.underlying9 (blk_alloc BM3.out _) HN.out HE.out; obtain ⟨w4, hw4⟩ : ∃ w4, w4 = Go.ChangeMaps.setBlock (w3.alloc (.cells #[.int .i64 b, .bool kk, .bool ll, .bool mm] 23)) gm (.map (esA (x.toNat + 1)) (x.toNat + 1)) := ⟨_, rfl⟩; rw [← hw4] at hup; have hm4 : w4.heap[gm]? = some (.map (esA (x.toNat + 1)) (x.toNat + 1)) := (by rw [hw4]; exact setBlock_at (blk_alloc BM3.out _)); have ha4 : w4.heap[ga]? = some (.cells cur 23 (0, 0)) := (by rw [hw4, setBlock_far HNE.out]; exact blk_alloc BA3.out _); have hb4 : Below w.heap.size w w4 := (by rw [hw4]; exact setBlock_below (below_alloc HB3.out _) HGE.out _); have BM4 := Aside0.mk hm4; have BA4 := Aside0.mk ha4; have HB4 := Aside0.mk hb4; clear hm4 ha4 hb4 hw4)))
        go_roundg k2
        case measure => omega
        case rel =>
          have hn : (x + 1).toNat = x.toNat + 1 := by omega
          have hk3 := HK.out
          exact ⟨x + 1, rfl, ⟨by omega⟩, ⟨by rw [hn]; exact BM4.out⟩, BA4, HB4⟩
      · have hx14 : x = 14 := by omega
        subst hx14
        have BM14 : Aside0 (wr.heap[gm]? = some (.map (esA 14) 14)) := BM
        clear BM
        have hlen := len14 gm wr BM14.out
        go_wp2_with (first
          | (go_at_call 16; go_loud (refine (stockyardlaw09_awake.calls 60 true _ allC_awake).mono ?_; rintro e w2 ⟨rfl, hb⟩; have HB2 := Aside0.mk (below_step (by repeat (first | (with_reducible first | exact HB.out | apply below_alloc | apply pw_below_drewN | apply below_drew1) | exact HB.out)) hb); clear hb)))
        exact bodyPost_ret (v := .bool true) (by simp [results, Tryd.results5, go_sem]) rfl ⟨rfl, HB2.out⟩

end Go.Proofs.YtolmcdglemkchaaDoor.P

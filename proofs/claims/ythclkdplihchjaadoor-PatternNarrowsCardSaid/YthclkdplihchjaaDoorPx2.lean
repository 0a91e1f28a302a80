-- Written by a program of this session (wip/gen.py) over the kit's print: each Go function as a plain Lean function, and the proof that the Go code comes to it. Nothing here is trusted: Lean checks it.
import Derived.Test.YthclkdplihchjaaDoorPx0
import Derived.Test.YthclkdplihchjaaDoorPx1
import Derived.Test.YthclkdplihchjaaDoorSq
namespace Go.Proofs.YthclkdplihchjaaDoor.P
open Go.RowKit Go.Proofs.YthclkdplihchjaaDoorW.PrintWords Go.Proofs.YthclkdplihchjaaDoorW.PrintLast Go.Proofs.YthclkdplihchjaaDoorW.PrintMore
attribute [local go_sem] str_gtr str_leq str_geq max2_int min2_int max_two min_two max_three min_three max_four min_four   -- for this text's walks alone
set_option linter.unusedVariables false
set_option linter.unusedSimpArgs false

/-! ### stockyardlaw03_small: function 13 -/
def stockyardlaw03_small.l0 : Nat → Int → List ByteArray → Int → Int → List ByteArray → Bool → Option (Bool)
  | 0, _, _, _, _, _, _ => none
  | k + 1, x3, x7, x8, x9, x102000, x102001 => if x9 < x8 then (if 0 ≤ x9 then (if x9 < (x7.length : Int) then (stockyardlaw03_small.l0 k (wrap64 (x3 + ((rdOf ByteArray.empty x7 x9).size : Int))) x7 x8 (wrap64 (x9 + 1)) x102000 x102001) else (none)) else (none)) else (if (x102000.length : Int) ≤ 20 then (some (decide (x3 ≤ 400))) else (some false))
def stockyardlaw03_small.f (k : Nat) (l0_0 : List ByteArray) (a0_1 : Bool) : Option (Bool) := stockyardlaw03_small.l0 k 0 l0_0 (l0_0.length : Int) 0 l0_0 a0_1
theorem stockyardlaw03_small.mono_l : ∀ k, (∀ y0 y1 y2 y3 y4 y5, LeO (stockyardlaw03_small.l0 k y0 y1 y2 y3 y4 y5) (stockyardlaw03_small.l0 (k + 1) y0 y1 y2 y3 y4 y5))
  | 0 => fun _ _ _ _ _ _ r h => by simp [stockyardlaw03_small.l0] at h
  | k + 1 => by
    have ih0 := stockyardlaw03_small.mono_l k
    · intro y0 y1 y2 y3 y4 y5
      unfold stockyardlaw03_small.l0
      repeat' first
      | (with_reducible exact ih0 _ _ _ _ _ _)
      | (with_reducible exact LeO.refl _)
      | (with_reducible exact LeO.none _)
      | (with_reducible refine LeO.ite ?_ ?_)
      | (with_reducible refine LeO.bind ?_ (fun _ => ?_))
      | exact ih0 _ _ _ _ _ _
      | exact LeO.none _
      | refine LeO.ite ?_ ?_
      | refine LeO.bind ?_ (fun _ => ?_)
theorem stockyardlaw03_small.mono : ∀ a0 a1 k, LeO (stockyardlaw03_small.f k a0 a1) (stockyardlaw03_small.f (k + 1) a0 a1) := by
  intro a0 a1 k
  have ih0 := stockyardlaw03_small.mono_l k
  unfold stockyardlaw03_small.f
  repeat' first
      | (with_reducible exact ih0 _ _ _ _ _ _)
      | (with_reducible exact LeO.refl _)
      | (with_reducible exact LeO.none _)
      | (with_reducible refine LeO.ite ?_ ?_)
      | (with_reducible refine LeO.bind ?_ (fun _ => ?_))
      | exact ih0 _ _ _ _ _ _
      | exact LeO.none _
      | refine LeO.ite ?_ ?_
      | refine LeO.bind ?_ (fun _ => ?_)
set_option maxHeartbeats 8000000 in
set_option maxRecDepth 100000 in
theorem stockyardlaw03_small.calls (k : Nat) (A0_0 : Option Addr) (c0_0 : Nat) (l0_0 : List ByteArray) (a0_1 : Bool) (r : Bool) (w : World) (hr0_0 : Kd.C Kd.string w A0_0 l0_0.length l0_0) (hc0_0 : l0_0.length ≤ c0_0) (h : stockyardlaw03_small.f k l0_0 a0_1 = some r) :
    Calls Tryd.prog 13 #[.agg #[.slice A0_0 l0_0.length c0_0, .bool a0_1]] w fun e w' => e = .returned (.bool r) ∧ Below w.heap.size w w' := by
  have hu24 := Tryd.underlying24
  have HR0_0 := Aside0.mk hr0_0
  have HC0_0 := Aside0.mk hc0_0
  clear hr0_0 hc0_0
  have HB := Aside0.mk (Below.refl w.heap.size w)
  have H : (stockyardlaw03_small.l0 k 0 l0_0 (l0_0.length : Int) 0 l0_0 a0_1) = some r := h
  clear h
  have H' := Aside0.mk H
  clear H
  go_enter Tryd.func13, Tryd.ntmps13
  go_wp2_with (first | ((with_reducible refine gate_dst (N := 1) rfl ?_); refine box_event ?hg (N := 1) ?hd (cs := #[.slice A0_0 l0_0.length c0_0, .bool a0_1]) (t := 24) ?hr ?_; (case hd => rfl); (case hg => rfl); (case hr => first | (go_simp; done) | (go_simp; rfl)); intro gb101 hg w2 hbox hb; have BK101 := Aside0.mk hbox; have GW101 := gw_ HB hg; have GE101 := gw_ HB hg; replace HB := hs_ HB hb; clear hb hbox hg; obtain ⟨hcz3_0, hcz3_1, hfz3_0, hfz3_1⟩ := c2_ BK101))
  go_loopg [3, 9] k (fun kq v3 v9 w' => ∃ (x3_1 : Int) (x9_1 : Int), v3 = .int .i64 x3_1 ∧ v9 = .int .i64 x9_1 ∧ Aside0 (stockyardlaw03_small.l0 kq x3_1 l0_0 (l0_0.length : Int) x9_1 l0_0 a0_1 = some r) ∧ Aside0 (kq ≤ k) ∧ Aside0 (w'.heap[gb101]? = some (.cells #[(.slice A0_0 l0_0.length c0_0), .bool a0_1] 24 (0, 0))) ∧ Aside0 (Below w.heap.size w w'))
  case atStart => exact ⟨(0), (0), (by first | rfl | (simp; done) | (simp [*]; done)), (by first | rfl | (simp; done) | (simp [*]; done)), H', ⟨Nat.le_refl _⟩, ⟨bk_⟩, ⟨hb_⟩⟩
  case round =>
    clear H'
    (try clear c1); (try clear p2); (try clear hcz3_0); (try clear hcz3_1); (try clear hfz3_0); (try clear hfz3_1)
    obtain ⟨x3_1, x9_1, rfl, rfl, HA, HK1, BK101, HB⟩ := hrel
    cases gk with
    | zero => exact absurd HA.out (by simp [stockyardlaw03_small.l0])
    | succ k1 =>
      have H := HA.out
      clear HA
      simp only [stockyardlaw03_small.l0] at H
      by_cases c4 : x9_1 < (l0_0.length : Int)
      · rw [if_pos c4] at H
        have c4b0 : decide (x9_1 < (l0_0.length : Int)) = true := decide_eq_true c4
        clear c4
        by_cases c5 : 0 ≤ x9_1
        · rw [if_pos c5] at H
          have c5b0 : decide (0 ≤ x9_1) = true := decide_eq_true c5
          clear c5
          by_cases c6 : x9_1 < (l0_0.length : Int)
          · rw [if_pos c6] at H
            have c6b0 : decide (x9_1 < (l0_0.length : Int)) = true := decide_eq_true c6
            clear c6
            have H' := Aside0.mk H
            clear H
            have p102 : 0 ≤ (x9_1 : Int) := of_decide_eq_true (by first | (with_reducible assumption) | assumption)
            have q102 : x9_1 < (l0_0.length : Int) := of_decide_eq_true (by first | (with_reducible assumption) | assumption)
            obtain ⟨ad102, e102, hx102_0⟩ := Kd.at_string HR0_0.out x9_1 p102 q102
            cases e102
            replace hx102_0 := (HB.out.cell (World.block_lt_of_cell? w _ hx102_0)).trans hx102_0
            replace p102 := eq_true p102
            replace q102 := eq_true q102
            go_wp2
            go_roundg k1
            case measure => have := HK1.out; omega
            case rel => exact ⟨(wrap64 (x3_1 + ((rdOf ByteArray.empty l0_0 x9_1).size : Int))), (wrap64 (x9_1 + 1)), (by first | rfl | (simp; done) | (simp [*]; done)), (by first | rfl | (simp; done) | (simp [*]; done)), H', ⟨by have := HK1.out; omega⟩, ⟨bk_⟩, ⟨hb_⟩⟩
          · rw [if_neg c6] at H
            exact absurd H (by simp)
        · rw [if_neg c5] at H
          exact absurd H (by simp)
      · rw [if_neg c4] at H
        have c4b0 : decide (x9_1 < (l0_0.length : Int)) = false := decide_eq_false c4
        clear c4
        by_cases c7 : (l0_0.length : Int) ≤ 20
        · rw [if_pos c7] at H
          have c7b0 : decide ((l0_0.length : Int) ≤ 20) = true := decide_eq_true c7
          have c7b1 : decide (l0_0.length ≤ 20) = true := decide_eq_true (by omega)
          clear c7
          obtain rfl := Option.some.inj H
          obtain ⟨hcz8_0, hcz8_1, hfz8_0, hfz8_1⟩ := c2_ BK101
          go_wp2
          go_ret
          exact ⟨rt_, hb_⟩
        · rw [if_neg c7] at H
          have c7b0 : decide ((l0_0.length : Int) ≤ 20) = false := decide_eq_false c7
          have c7b1 : decide (l0_0.length ≤ 20) = false := decide_eq_false (by omega)
          clear c7
          obtain rfl := Option.some.inj H
          obtain ⟨hcz9_0, hcz9_1, hfz9_0, hfz9_1⟩ := c2_ BK101
          go_wp2
          go_ret
          exact ⟨rt_, hb_⟩

/-! ### pattern_Parse: function 35 -/
def pattern_Parse.f (k : Nat) (a0 : ByteArray) : Option (List ByteArray × Bool × Int) := (strings_CutPrefix.f a0 (⟨#[47, 47]⟩ : ByteArray)).bind fun bt124 => (if bt124.2 = true then ((strings_CutSuffix.f bt124.1 (⟨#[47, 46, 46, 46]⟩ : ByteArray)).bind fun bt127 => ((strings_Split.f bt127.1 (⟨#[47]⟩ : ByteArray)).bind fun t129 => ((pattern_Check.f k t129 bt127.2).bind fun t132 => (if t132 = 0 then (some (t129, bt127.2, 0)) else (some (([] : List ByteArray), false, t132)))))) else (some (([] : List ByteArray), false, 30)))
theorem pattern_Parse.mono : ∀ a0 k, LeO (pattern_Parse.f k a0) (pattern_Parse.f (k + 1) a0) := by
  intro a0 k
  unfold pattern_Parse.f
  repeat' first
      | (with_reducible exact pattern_Check.mono _ _ _)
      | (with_reducible exact LeO.refl _)
      | (with_reducible exact LeO.none _)
      | (with_reducible refine LeO.ite ?_ ?_)
      | (with_reducible refine LeO.bind ?_ (fun _ => ?_))
      | exact pattern_Check.mono _ _ _
      | exact LeO.none _
      | refine LeO.ite ?_ ?_
      | refine LeO.bind ?_ (fun _ => ?_)
set_option maxHeartbeats 8000000 in
set_option maxRecDepth 100000 in
theorem pattern_Parse.calls (k : Nat) (a0 : ByteArray) (r1 : List ByteArray) (r2 : Bool) (r3 : Int) (w : World) (h : pattern_Parse.f k a0 = some (r1, r2, r3)) :
    Calls Tryd.prog 35 #[.string a0] w fun e w' => ∃ v0_ : Value, e = .returned (.tuple #[.agg #[v0_, .bool r2], .int .i64 r3]) ∧ Kd.R Kd.string 9 w' w.heap.size (fun _ => True) v0_ r1 ∧ Below w.heap.size w w' := by
  have hu24 := Tryd.underlying24
  have HB := Aside0.mk (Below.refl w.heap.size w)
  have H : ((strings_CutPrefix.f a0 (⟨#[47, 47]⟩ : ByteArray)).bind fun bt124 => (if bt124.2 = true then ((strings_CutSuffix.f bt124.1 (⟨#[47, 46, 46, 46]⟩ : ByteArray)).bind fun bt127 => ((strings_Split.f bt127.1 (⟨#[47]⟩ : ByteArray)).bind fun t129 => ((pattern_Check.f k t129 bt127.2).bind fun t132 => (if t132 = 0 then (some (t129, bt127.2, 0)) else (some (([] : List ByteArray), false, t132)))))) else (some (([] : List ByteArray), false, 30)))) = some (r1, r2, r3) := h
  clear h
  replace H := Option.bind_eq_some_iff.mp H
  obtain ⟨⟨t124, t125⟩, A20, H⟩ := H
  replace H : (if t125 = true then ((strings_CutSuffix.f t124 (⟨#[47, 46, 46, 46]⟩ : ByteArray)).bind fun bt127 => ((strings_Split.f bt127.1 (⟨#[47]⟩ : ByteArray)).bind fun t129 => ((pattern_Check.f k t129 bt127.2).bind fun t132 => (if t132 = 0 then (some (t129, bt127.2, 0)) else (some (([] : List ByteArray), false, t132)))))) else (some (([] : List ByteArray), false, 30))) = some (r1, r2, r3) := H
  have A2 := Aside0.mk A20
  clear A20
  by_cases c3 : t125 = true
  subst c3
  have H1 : ((strings_CutSuffix.f t124 (⟨#[47, 46, 46, 46]⟩ : ByteArray)).bind fun bt127 => ((strings_Split.f bt127.1 (⟨#[47]⟩ : ByteArray)).bind fun t129 => ((pattern_Check.f k t129 bt127.2).bind fun t132 => (if t132 = 0 then (some (t129, bt127.2, 0)) else (some (([] : List ByteArray), false, t132)))))) = some (r1, r2, r3) := by rw [if_pos rfl] at H; exact H
  clear H
  have H := H1
  clear H1
  replace H := Option.bind_eq_some_iff.mp H
  obtain ⟨⟨t127, t128⟩, A40, H⟩ := H
  replace H : ((strings_Split.f t127 (⟨#[47]⟩ : ByteArray)).bind fun t129 => ((pattern_Check.f k t129 t128).bind fun t132 => (if t132 = 0 then (some (t129, t128, 0)) else (some (([] : List ByteArray), false, t132))))) = some (r1, r2, r3) := H
  have A4 := Aside0.mk A40
  clear A40
  replace H := Option.bind_eq_some_iff.mp H
  obtain ⟨t129, A50, H⟩ := H
  replace H : ((pattern_Check.f k t129 t128).bind fun t132 => (if t132 = 0 then (some (t129, t128, 0)) else (some (([] : List ByteArray), false, t132)))) = some (r1, r2, r3) := H
  have A5 := Aside0.mk A50
  clear A50
  replace H := Option.bind_eq_some_iff.mp H
  obtain ⟨t132, A60, H⟩ := H
  replace H : (if t132 = 0 then (some (t129, t128, 0)) else (some (([] : List ByteArray), false, t132))) = some (r1, r2, r3) := H
  have A6 := Aside0.mk A60
  clear A60
  by_cases c7 : t132 = 0
  rw [if_pos c7] at H
  have c7b0 : (t132 == 0) = true := beq_iff_eq.mpr c7
  have c7b1 : (t132 != 0) = false := bne_eq_false_iff_eq.mpr c7
  clear c7
  simp only [Option.some.injEq, Prod.mk.injEq] at H
  obtain ⟨rfl, rfl, rfl⟩ := H
  rotate_left
  rw [if_neg c7] at H
  have c7b0 : (t132 == 0) = false := beq_eq_false_iff_ne.mpr c7
  have c7b1 : (t132 != 0) = true := bne_iff_ne.mpr c7
  simp only [Option.some.injEq, Prod.mk.injEq] at H
  obtain ⟨rfl, rfl, rfl⟩ := H
  rotate_left
  replace c3 := Bool.eq_false_iff.mpr c3
  subst c3
  have H1 : (some (([] : List ByteArray), false, 30)) = some (r1, r2, r3) := by rw [if_neg (show ¬ (false = true) by decide)] at H; exact H
  clear H
  have H := H1
  clear H1
  simp only [Option.some.injEq, Prod.mk.injEq] at H
  obtain ⟨rfl, rfl, rfl⟩ := H
  rotate_left
  all_goals go_enter Tryd.func35, Tryd.ntmps35
  all_goals go_wp2_with (first | ((with_reducible refine gate_dst (N := 2) rfl ?_); refine box_event ?hg (N := 2) ?hd (cs := #[.slice none 0 0, .bool false]) (t := 24) ?hr ?_; (case hd => rfl); (case hg => rfl); (case hr => first | (go_simp; done) | (go_simp; rfl)); intro gb123 hg w8 hbox hb; have BK123 := Aside0.mk hbox; have GW123 := gw_ HB hg; have GE123 := gw_ HB hg; replace HB := hs_ HB hb; clear hb hbox hg) | ((with_reducible refine gate_callee (f := 60) rfl ?_); refine goesL_ (some 10) rfl rfl Tryd.func60 (by kernel_rfl) rfl #[.string a0, .string (⟨#[47, 47]⟩ : ByteArray)] rfl gl_ ?_; (with_reducible refine (strings_CutPrefix.calls a0 (⟨#[47, 47]⟩ : ByteArray) t124 true _ A2.out).mono ?_); rintro e w' ⟨rfl, ⟨nd, rfl⟩⟩; refine ⟨_, rfl, ?_⟩; (try (rw [drewN_self w8]; generalize hq_ : World.drewN w8 _ = w8; have n0_ : Aside0 (w8.heap[gb123]? = some (.cells #[.slice none 0 0, .bool false] 24 (0, 0))) := ⟨by rw [← hq_]; exact bk_⟩; have n1_ : Aside0 (Below w.heap.size w w8) := ⟨by rw [← hq_]; exact hb_⟩; clear BK123 HB hq_; have BK123 := n0_; have HB := n1_; clear n0_ n1_))) | ((with_reducible refine gate_dst (N := 6) rfl ?_); refine box_event ?hg (N := 6) ?hd (cs := #[.slice none 0 0, .bool false]) (t := 24) ?hr ?_; (case hd => rfl); (case hg => rfl); (case hr => first | (go_simp; done) | (go_simp; rfl)); intro gb126 hg w9 hbox hb; have BK126 := Aside0.mk hbox; have GW126 := gw_ HB hg; have GE126 := gw_ HB hg; have NB123_126 := nl_ BK123 hg; have NB126_123 := nr_ BK123 hg; replace BK123 := bb_ BK123 hb; replace HB := hs_ HB hb; clear hb hbox hg) | ((with_reducible refine gate_callee (f := 56) rfl ?_); refine goesL_ (some 18) rfl rfl Tryd.func56 (by kernel_rfl) rfl #[.string t124, .string (⟨#[47, 46, 46, 46]⟩ : ByteArray)] rfl gl_ ?_; (with_reducible refine (strings_CutSuffix.calls t124 (⟨#[47, 46, 46, 46]⟩ : ByteArray) t127 t128 _ A4.out).mono ?_); rintro e w' ⟨rfl, ⟨nd, rfl⟩⟩; refine ⟨_, rfl, ?_⟩; (try (rw [drewN_self w9]; generalize hq_ : World.drewN w9 _ = w9; have n0_ : Aside0 (w9.heap[gb123]? = some (.cells #[.slice none 0 0, .bool false] 24 (0, 0))) := ⟨by rw [← hq_]; exact bk_⟩; have n1_ : Aside0 (w9.heap[gb126]? = some (.cells #[.slice none 0 0, .bool false] 24 (0, 0))) := ⟨by rw [← hq_]; exact bk_⟩; have n2_ : Aside0 (Below w.heap.size w w9) := ⟨by rw [← hq_]; exact hb_⟩; clear BK123 BK126 HB hq_; have BK123 := n0_; have BK126 := n1_; have HB := n2_; clear n0_ n1_ n2_)); have hnb10 := NB126_123.out; have hnc10 := NB123_126.out; obtain ⟨hcz11_0, hcz11_1, hfz11_0, hfz11_1⟩ := c2_ BK126) | ((with_reducible refine gate_callee (f := 61) rfl ?_); refine goesL_ (some 23) rfl rfl Tryd.func61 (by kernel_rfl) rfl #[.string t127, .string (⟨#[47]⟩ : ByteArray)] rfl gl_ ?_; (with_reducible refine (strings_Split.calls t127 (⟨#[47]⟩ : ByteArray) t129 _ A5.out).mono ?_); rintro e w12 ⟨v130, rfl, ho0, hb⟩; refine ⟨_, rfl, ?_⟩; have n0_ := Aside0.mk (Kd.R_lower ho0 (below_size hb_)); have n2_ := Aside0.mk (blk_below (g := gb126) (o := .cells #[.slice none 0 0, .bool t128] 24 (0, 0)) bz_ hb); replace BK123 := bb_ BK123 hb; replace HB := hs_ HB hb; clear BK126; have HO131 := n0_; have BK126 := n2_; clear n0_ n2_; (try clear hb); (try clear hb2); (try clear hk); (try clear hi); (try clear ho0); obtain ⟨Ao13, co13, eo13⟩ := Kd.R_slice HO131.out; subst eo13; obtain ⟨hcz14_0, hcz14_1, hfz14_0, hfz14_1⟩ := c2_ BK126) | ((with_reducible refine gate_callee (f := 48) rfl ?_); refine goesL_ (some 26) rfl rfl Tryd.func48 (by kernel_rfl) rfl #[.agg #[.slice Ao13 t129.length co13, .bool t128]] rfl gl_ ?_; (with_reducible refine (pattern_Check.calls k _ _ t129 t128 t132 _ ?side1 ?side2 A6.out).mono ?_); (case side1 => refine (Kd.R_reads' (e := 9) (base := w.heap.size) (ok := fun k_ => True) (n := t129.length) (c := co13) ?_).2.2; exact (by (with_reducible repeat (first | apply Kd.R_alloc | apply Kd.R_drewN | apply Kd.R_drew)); exact (Kd.R_mono (Kd.R_far (p := ⟨gb126, 0, none⟩) (Kd.R_types HO131.out BK126.out (by decide)) (fun _ hk => hk.2) (.slice Ao13 t129.length co13)) (fun _ h_ => h_.1)))); (case side2 => exact (Kd.R_reads' HO131.out).2.1); rintro e w15 ⟨rfl, hb⟩; refine ⟨_, rfl, ?_⟩; have n0_ := Aside0.mk (Kd.R_below (by (with_reducible repeat (first | apply Kd.R_alloc | apply Kd.R_drewN | apply Kd.R_drew)); exact (Kd.R_mono (Kd.R_far (p := ⟨gb126, 0, none⟩) (Kd.R_types HO131.out BK126.out (by decide)) (fun _ hk => hk.2) (.slice Ao13 t129.length co13)) (fun _ h_ => h_.1))) hb); have n2_ := Aside0.mk (blk_below (g := gb126) (o := .cells #[.slice Ao13 t129.length co13, .bool t128] 24 (0, 0)) bz_ hb); replace BK123 := bb_ BK123 hb; replace HB := hs_ HB hb; clear HO131 BK126; have HO131 := n0_; have BK126 := n2_; clear n0_ n2_; (try clear hb); (try clear hb2); (try clear hk); (try clear hi); obtain ⟨hcz16_0, hcz16_1, hfz16_0, hfz16_1⟩ := c2_ BK126; obtain ⟨hcz17_0, hcz17_1, hfz17_0, hfz17_1⟩ := c2_ BK123) | ((with_reducible refine gate_callee (f := 60) rfl ?_); refine goesL_ (some 10) rfl rfl Tryd.func60 (by kernel_rfl) rfl #[.string a0, .string (⟨#[47, 47]⟩ : ByteArray)] rfl gl_ ?_; (with_reducible refine (strings_CutPrefix.calls a0 (⟨#[47, 47]⟩ : ByteArray) t124 false _ A2.out).mono ?_); rintro e w' ⟨rfl, ⟨nd, rfl⟩⟩; refine ⟨_, rfl, ?_⟩; (try (rw [drewN_self w8]; generalize hq_ : World.drewN w8 _ = w8; have n0_ : Aside0 (w8.heap[gb123]? = some (.cells #[.slice none 0 0, .bool false] 24 (0, 0))) := ⟨by rw [← hq_]; exact bk_⟩; have n1_ : Aside0 (Below w.heap.size w w8) := ⟨by rw [← hq_]; exact hb_⟩; clear BK123 HB hq_; have BK123 := n0_; have HB := n1_; clear n0_ n1_)); obtain ⟨hcz28_0, hcz28_1, hfz28_0, hfz28_1⟩ := c2_ BK123))
  · refine bodyPost_ret (results_ct rfl _ _ gb123 24 #[.slice Ao13 t129.length co13, .bool t128] (0, 0) _ rfl bz_ Tryd.underlying24 rfl (by kernel_rfl)) rfl ?_
    exact ⟨_, rt_, by (with_reducible repeat (first | apply Kd.R_alloc | apply Kd.R_drewN | apply Kd.R_drew)); exact Kd.R_mono (Kd.R_far (p := ⟨gb123, 1, none⟩) (Kd.R_far (p := ⟨gb123, 0, none⟩) (Kd.R_types HO131.out BK123.out (by decide)) (fun _ hk => hk.2) (.slice Ao13 t129.length co13)) (fun _ hk => hk.2) (.bool t128)) (fun _ hk => trivial), hb_⟩
  · refine bodyPost_ret (results_ct rfl _ _ gb123 24 #[.slice none 0 0, .bool false] (0, 0) _ rfl bz_ Tryd.underlying24 rfl (by kernel_rfl)) rfl ?_
    exact ⟨_, rt_, rn_, hb_⟩
  · refine bodyPost_ret (results_ct rfl _ _ gb123 24 #[.slice none 0 0, .bool false] (0, 0) _ rfl bz_ Tryd.underlying24 rfl (by kernel_rfl)) rfl ?_
    exact ⟨_, rt_, rn_, hb_⟩

/-! ### stockyardlaw03_awake: function 14 -/
def stockyardlaw03_awake.f (k : Nat)  : Option (Bool) := (pattern_Parse.f k (⟨#[47, 47, 97, 47, 42, 46, 112, 115, 100, 47, 46, 46, 46]⟩ : ByteArray)).bind fun bt170 => ((pattern_Match.f k bt170.1 bt170.2.1 (⟨#[47, 47, 97, 47, 120, 46, 112, 115, 100, 47, 98, 47, 99]⟩ : ByteArray)).bind fun bt176 => (if bt170.2.2 = 0 then (if bt170.2.1 = true then (if (bt170.1.length : Int) = 2 then (if bt176.2 = true then (if (bt176.1.length : Int) = 2 then (if 0 < (bt176.1.length : Int) then (if (rdOf ByteArray.empty bt176.1 0).toList = ([120] : List UInt8) then (if 1 < (bt176.1.length : Int) then (some ((rdOf ByteArray.empty bt176.1 1).toList == ([98, 47, 99] : List UInt8))) else (none)) else (some false)) else (none)) else (some false)) else (some false)) else (some false)) else (some false)) else (some false)))
theorem stockyardlaw03_awake.mono : ∀ k, LeO (stockyardlaw03_awake.f k ) (stockyardlaw03_awake.f (k + 1) ) := by
  intro  k
  unfold stockyardlaw03_awake.f
  repeat' first
      | (with_reducible exact pattern_Match.mono _ _ _ _)
      | (with_reducible exact pattern_Parse.mono _ _)
      | (with_reducible exact LeO.refl _)
      | (with_reducible exact LeO.none _)
      | (with_reducible refine LeO.ite ?_ ?_)
      | (with_reducible refine LeO.bind ?_ (fun _ => ?_))
      | exact pattern_Match.mono _ _ _ _
      | exact pattern_Parse.mono _ _
      | exact LeO.none _
      | refine LeO.ite ?_ ?_
      | refine LeO.bind ?_ (fun _ => ?_)
set_option maxHeartbeats 8000000 in
set_option maxRecDepth 100000 in
theorem stockyardlaw03_awake.calls (k : Nat)  (r : Bool) (w : World) (h : stockyardlaw03_awake.f k  = some r) :
    Calls Tryd.prog 14 #[] w fun e w' => e = .returned (.bool r) ∧ Below w.heap.size w w' := by
  have hu24 := Tryd.underlying24
  have HB := Aside0.mk (Below.refl w.heap.size w)
  have H : ((pattern_Parse.f k (⟨#[47, 47, 97, 47, 42, 46, 112, 115, 100, 47, 46, 46, 46]⟩ : ByteArray)).bind fun bt170 => ((pattern_Match.f k bt170.1 bt170.2.1 (⟨#[47, 47, 97, 47, 120, 46, 112, 115, 100, 47, 98, 47, 99]⟩ : ByteArray)).bind fun bt176 => (if bt170.2.2 = 0 then (if bt170.2.1 = true then (if (bt170.1.length : Int) = 2 then (if bt176.2 = true then (if (bt176.1.length : Int) = 2 then (if 0 < (bt176.1.length : Int) then (if (rdOf ByteArray.empty bt176.1 0).toList = ([120] : List UInt8) then (if 1 < (bt176.1.length : Int) then (some ((rdOf ByteArray.empty bt176.1 1).toList == ([98, 47, 99] : List UInt8))) else (none)) else (some false)) else (none)) else (some false)) else (some false)) else (some false)) else (some false)) else (some false)))) = some r := h
  clear h
  replace H := Option.bind_eq_some_iff.mp H
  obtain ⟨⟨t170, t173, t174⟩, A10, H⟩ := H
  replace H : ((pattern_Match.f k t170 t173 (⟨#[47, 47, 97, 47, 120, 46, 112, 115, 100, 47, 98, 47, 99]⟩ : ByteArray)).bind fun bt176 => (if t174 = 0 then (if t173 = true then (if (t170.length : Int) = 2 then (if bt176.2 = true then (if (bt176.1.length : Int) = 2 then (if 0 < (bt176.1.length : Int) then (if (rdOf ByteArray.empty bt176.1 0).toList = ([120] : List UInt8) then (if 1 < (bt176.1.length : Int) then (some ((rdOf ByteArray.empty bt176.1 1).toList == ([98, 47, 99] : List UInt8))) else (none)) else (some false)) else (none)) else (some false)) else (some false)) else (some false)) else (some false)) else (some false))) = some r := H
  have A1 := Aside0.mk A10
  clear A10
  replace H := Option.bind_eq_some_iff.mp H
  obtain ⟨⟨t176, t179⟩, A20, H⟩ := H
  replace H : (if t174 = 0 then (if t173 = true then (if (t170.length : Int) = 2 then (if t179 = true then (if (t176.length : Int) = 2 then (if 0 < (t176.length : Int) then (if (rdOf ByteArray.empty t176 0).toList = ([120] : List UInt8) then (if 1 < (t176.length : Int) then (some ((rdOf ByteArray.empty t176 1).toList == ([98, 47, 99] : List UInt8))) else (none)) else (some false)) else (none)) else (some false)) else (some false)) else (some false)) else (some false)) else (some false)) = some r := H
  have A2 := Aside0.mk A20
  clear A20
  by_cases c3 : t174 = 0
  · rw [if_pos c3] at H
    have c3b0 : (t174 == 0) = true := beq_iff_eq.mpr c3
    have c3b1 : (t174 != 0) = false := bne_eq_false_iff_eq.mpr c3
    clear c3
    by_cases c4 : t173 = true
    · subst c4
      have H1 : (if (t170.length : Int) = 2 then (if t179 = true then (if (t176.length : Int) = 2 then (if 0 < (t176.length : Int) then (if (rdOf ByteArray.empty t176 0).toList = ([120] : List UInt8) then (if 1 < (t176.length : Int) then (some ((rdOf ByteArray.empty t176 1).toList == ([98, 47, 99] : List UInt8))) else (none)) else (some false)) else (none)) else (some false)) else (some false)) else (some false)) = some r := by rw [if_pos rfl] at H; exact H
      clear H
      have H := H1
      clear H1
      by_cases c5 : (t170.length : Int) = 2
      · rw [if_pos c5] at H
        have c5b0 : ((t170.length : Int) == 2) = true := beq_iff_eq.mpr c5
        have c5b1 : ((t170.length : Int) != 2) = false := bne_eq_false_iff_eq.mpr c5
        clear c5
        by_cases c6 : t179 = true
        · subst c6
          have H1 : (if (t176.length : Int) = 2 then (if 0 < (t176.length : Int) then (if (rdOf ByteArray.empty t176 0).toList = ([120] : List UInt8) then (if 1 < (t176.length : Int) then (some ((rdOf ByteArray.empty t176 1).toList == ([98, 47, 99] : List UInt8))) else (none)) else (some false)) else (none)) else (some false)) = some r := by rw [if_pos rfl] at H; exact H
          clear H
          have H := H1
          clear H1
          by_cases c7 : (t176.length : Int) = 2
          · rw [if_pos c7] at H
            have c7b0 : ((t176.length : Int) == 2) = true := beq_iff_eq.mpr c7
            have c7b1 : ((t176.length : Int) != 2) = false := bne_eq_false_iff_eq.mpr c7
            clear c7
            by_cases c8 : 0 < (t176.length : Int)
            · rw [if_pos c8] at H
              have c8b0 : decide (0 < (t176.length : Int)) = true := decide_eq_true c8
              have c8b1 : decide (0 < t176.length) = true := decide_eq_true (by omega)
              clear c8
              by_cases c9 : (rdOf ByteArray.empty t176 0).toList = ([120] : List UInt8)
              · rw [if_pos c9] at H
                have c9b0 : ((rdOf ByteArray.empty t176 0).toList == ([120] : List UInt8)) = true := beq_iff_eq.mpr c9
                have c9b1 : ((rdOf ByteArray.empty t176 0).toList != ([120] : List UInt8)) = false := bne_eq_false_iff_eq.mpr c9
                clear c9
                by_cases c10 : 1 < (t176.length : Int)
                · rw [if_pos c10] at H
                  have c10b0 : decide (1 < (t176.length : Int)) = true := decide_eq_true c10
                  have c10b1 : decide (1 < t176.length) = true := decide_eq_true (by omega)
                  clear c10
                  obtain rfl := Option.some.inj H
                  go_enter Tryd.func14, Tryd.ntmps14
                  go_wp2_with (first | ((with_reducible refine gate_callee (f := 35) rfl ?_); refine goesL_ (some 6) rfl rfl Tryd.func35 (by kernel_rfl) rfl #[.string (⟨#[47, 47, 97, 47, 42, 46, 112, 115, 100, 47, 46, 46, 46]⟩ : ByteArray)] rfl gl_ ?_; (with_reducible refine (pattern_Parse.calls k (⟨#[47, 47, 97, 47, 42, 46, 112, 115, 100, 47, 46, 46, 46]⟩ : ByteArray) t170 true t174 _ A1.out).mono ?_); rintro e w11 ⟨v171, rfl, ho0, hb⟩; refine ⟨_, rfl, ?_⟩; have n0_ := Aside0.mk (Kd.R_lower ho0 (below_size hb_)); replace HB := hs_ HB hb; have HO172 := n0_; clear n0_; (try clear hb); (try clear hb2); (try clear hk); (try clear hi); (try clear ho0)) | ((with_reducible refine gate_dst (N := 1) rfl ?_); (try (refine gate_guard (by rfl) ?_; dsimp only)); refine box_event ?hg (N := 1) ?hd (cs := #[.slice none 0 0, .bool false]) (t := 24) ?hr ?_; (case hd => rfl); (case hg => rfl); (case hr => first | (go_simp; done) | (go_simp; rfl)); intro gb175 hg w12 hbox hb; have BK175 := Aside0.mk hbox; have GW175 := gw_ HB hg; have GE175 := gw_ HB hg; replace HO172 := rb_ HO172 hb; replace HB := hs_ HB hb; clear hb hbox hg; obtain ⟨Ao13, co13, eo13⟩ := Kd.R_slice HO172.out; subst eo13; obtain ⟨hcz14_0, hcz14_1, hfz14_0, hfz14_1⟩ := c2_ BK175) | ((with_reducible refine gate_callee (f := 36) rfl ?_); refine goesL_ (some 11) rfl rfl Tryd.func36 (by kernel_rfl) rfl #[.agg #[.slice Ao13 t170.length co13, .bool true], .string (⟨#[47, 47, 97, 47, 120, 46, 112, 115, 100, 47, 98, 47, 99]⟩ : ByteArray)] rfl gl_ ?_; (with_reducible refine (pattern_Match.calls k _ _ t170 true (⟨#[47, 47, 97, 47, 120, 46, 112, 115, 100, 47, 98, 47, 99]⟩ : ByteArray) t176 true _ ?side1 ?side2 A2.out).mono ?_); (case side1 => refine (Kd.R_reads' (e := 9) (base := w.heap.size) (ok := fun k_ => True) (n := t170.length) (c := co13) ?_).2.2; exact (by (with_reducible repeat (first | apply Kd.R_alloc | apply Kd.R_drewN | apply Kd.R_drew)); exact (Kd.R_mono (Kd.R_far (p := ⟨gb175, 1, none⟩) (Kd.R_far (p := ⟨gb175, 0, none⟩) (Kd.R_types HO172.out BK175.out (by decide)) (fun _ hk => hk.2) (.slice Ao13 t170.length co13)) (fun _ hk => hk.2) (.bool true)) (fun _ h_ => h_.1)))); (case side2 => exact (Kd.R_reads' HO172.out).2.1); rintro e w15 ⟨v177, rfl, ho0, hb⟩; refine ⟨_, rfl, ?_⟩; have n0_ := Aside0.mk (Kd.R_elder' (by (with_reducible repeat (first | apply Kd.R_alloc | apply Kd.R_drewN | apply Kd.R_drew)); exact (Kd.R_mono (Kd.R_far (p := ⟨gb175, 1, none⟩) (Kd.R_far (p := ⟨gb175, 0, none⟩) (Kd.R_types HO172.out BK175.out (by decide)) (fun _ hk => hk.2) (.slice Ao13 t170.length co13)) (fun _ hk => hk.2) (.bool true)) (fun _ h_ => h_.1))) (Kd.R_base ho0) hb); have n1_ := Aside0.mk (Kd.R_lower (Kd.R_new' ho0 (Kd.R_lt (by (with_reducible repeat (first | apply Kd.R_alloc | apply Kd.R_drewN | apply Kd.R_drew)); exact (Kd.R_mono (Kd.R_far (p := ⟨gb175, 1, none⟩) (Kd.R_far (p := ⟨gb175, 0, none⟩) (Kd.R_types HO172.out BK175.out (by decide)) (fun _ hk => hk.2) (.slice Ao13 t170.length co13)) (fun _ hk => hk.2) (.bool true)) (fun _ h_ => h_.1))))) (below_size hb_)); have n2_ := Aside0.mk (blk_below (g := gb175) (o := .cells #[.slice Ao13 t170.length co13, .bool true] 24 (0, 0)) bz_ hb); replace HB := hs_ HB hb; clear HO172 BK175; have HO172 := n0_; have HO178 := n1_; have BK175 := n2_; clear n0_ n1_ n2_; (try clear hb); (try clear hb2); (try clear hk); (try clear hi); (try clear ho0); obtain ⟨hcz16_0, hcz16_1, hfz16_0, hfz16_1⟩ := c2_ BK175; obtain ⟨Ao17, co17, eo17⟩ := Kd.R_slice HO178.out; subst eo17; have p180 : 0 ≤ (0 : Int) := (by omega); have q180 : 0 < (t176.length : Int) := of_decide_eq_true (by first | (with_reducible assumption) | assumption); obtain ⟨ad180, e180, hx180_0⟩ := Kd.at_string (Kd.R_reads' HO178.out).2.2 0 p180 q180; cases e180; have qi180 : (0 < t176.length) = True := eq_true (by omega); (try rw [show ((0 : Int)).toNat = 0 from rfl] at hx180_0); (try rw [Addr.add_zero'] at hx180_0); replace p180 := eq_true p180; replace q180 := eq_true q180; have p181 : 0 ≤ (1 : Int) := (by omega); have q181 : 1 < (t176.length : Int) := of_decide_eq_true (by first | (with_reducible assumption) | assumption); obtain ⟨ad181, e181, hx181_0⟩ := Kd.at_string (Kd.R_reads' HO178.out).2.2 1 p181 q181; obtain rfl : ad180 = ad181 := (by injection e181); (try simp only [show (1 : Int).toNat = 1 from rfl, Nat.reduceMul, Nat.reduceEqDiff, Go.Addr.add, ↓reduceIte] at hx181_0); have qi181 : (1 < t176.length) = True := eq_true (by omega); (try rw [show ((1 : Int)).toNat = 1 from rfl] at hx181_0); replace p181 := eq_true p181; replace q181 := eq_true q181))
                  go_ret
                  exact ⟨rt_, hb_⟩
                · rw [if_neg c10] at H
                  exact absurd H (by simp)
              · rw [if_neg c9] at H
                have c9b0 : ((rdOf ByteArray.empty t176 0).toList == ([120] : List UInt8)) = false := beq_eq_false_iff_ne.mpr c9
                have c9b1 : ((rdOf ByteArray.empty t176 0).toList != ([120] : List UInt8)) = true := bne_iff_ne.mpr c9
                obtain rfl := Option.some.inj H
                go_enter Tryd.func14, Tryd.ntmps14
                go_wp2_with (first | ((with_reducible refine gate_callee (f := 35) rfl ?_); refine goesL_ (some 6) rfl rfl Tryd.func35 (by kernel_rfl) rfl #[.string (⟨#[47, 47, 97, 47, 42, 46, 112, 115, 100, 47, 46, 46, 46]⟩ : ByteArray)] rfl gl_ ?_; (with_reducible refine (pattern_Parse.calls k (⟨#[47, 47, 97, 47, 42, 46, 112, 115, 100, 47, 46, 46, 46]⟩ : ByteArray) t170 true t174 _ A1.out).mono ?_); rintro e w18 ⟨v171, rfl, ho0, hb⟩; refine ⟨_, rfl, ?_⟩; have n0_ := Aside0.mk (Kd.R_lower ho0 (below_size hb_)); replace HB := hs_ HB hb; have HO172 := n0_; clear n0_; (try clear hb); (try clear hb2); (try clear hk); (try clear hi); (try clear ho0)) | ((with_reducible refine gate_dst (N := 1) rfl ?_); (try (refine gate_guard (by rfl) ?_; dsimp only)); refine box_event ?hg (N := 1) ?hd (cs := #[.slice none 0 0, .bool false]) (t := 24) ?hr ?_; (case hd => rfl); (case hg => rfl); (case hr => first | (go_simp; done) | (go_simp; rfl)); intro gb175 hg w19 hbox hb; have BK175 := Aside0.mk hbox; have GW175 := gw_ HB hg; have GE175 := gw_ HB hg; replace HO172 := rb_ HO172 hb; replace HB := hs_ HB hb; clear hb hbox hg; obtain ⟨Ao20, co20, eo20⟩ := Kd.R_slice HO172.out; subst eo20; obtain ⟨hcz21_0, hcz21_1, hfz21_0, hfz21_1⟩ := c2_ BK175) | ((with_reducible refine gate_callee (f := 36) rfl ?_); refine goesL_ (some 11) rfl rfl Tryd.func36 (by kernel_rfl) rfl #[.agg #[.slice Ao20 t170.length co20, .bool true], .string (⟨#[47, 47, 97, 47, 120, 46, 112, 115, 100, 47, 98, 47, 99]⟩ : ByteArray)] rfl gl_ ?_; (with_reducible refine (pattern_Match.calls k _ _ t170 true (⟨#[47, 47, 97, 47, 120, 46, 112, 115, 100, 47, 98, 47, 99]⟩ : ByteArray) t176 true _ ?side1 ?side2 A2.out).mono ?_); (case side1 => refine (Kd.R_reads' (e := 9) (base := w.heap.size) (ok := fun k_ => True) (n := t170.length) (c := co20) ?_).2.2; exact (by (with_reducible repeat (first | apply Kd.R_alloc | apply Kd.R_drewN | apply Kd.R_drew)); exact (Kd.R_mono (Kd.R_far (p := ⟨gb175, 1, none⟩) (Kd.R_far (p := ⟨gb175, 0, none⟩) (Kd.R_types HO172.out BK175.out (by decide)) (fun _ hk => hk.2) (.slice Ao20 t170.length co20)) (fun _ hk => hk.2) (.bool true)) (fun _ h_ => h_.1)))); (case side2 => exact (Kd.R_reads' HO172.out).2.1); rintro e w22 ⟨v177, rfl, ho0, hb⟩; refine ⟨_, rfl, ?_⟩; have n0_ := Aside0.mk (Kd.R_elder' (by (with_reducible repeat (first | apply Kd.R_alloc | apply Kd.R_drewN | apply Kd.R_drew)); exact (Kd.R_mono (Kd.R_far (p := ⟨gb175, 1, none⟩) (Kd.R_far (p := ⟨gb175, 0, none⟩) (Kd.R_types HO172.out BK175.out (by decide)) (fun _ hk => hk.2) (.slice Ao20 t170.length co20)) (fun _ hk => hk.2) (.bool true)) (fun _ h_ => h_.1))) (Kd.R_base ho0) hb); have n1_ := Aside0.mk (Kd.R_lower (Kd.R_new' ho0 (Kd.R_lt (by (with_reducible repeat (first | apply Kd.R_alloc | apply Kd.R_drewN | apply Kd.R_drew)); exact (Kd.R_mono (Kd.R_far (p := ⟨gb175, 1, none⟩) (Kd.R_far (p := ⟨gb175, 0, none⟩) (Kd.R_types HO172.out BK175.out (by decide)) (fun _ hk => hk.2) (.slice Ao20 t170.length co20)) (fun _ hk => hk.2) (.bool true)) (fun _ h_ => h_.1))))) (below_size hb_)); have n2_ := Aside0.mk (blk_below (g := gb175) (o := .cells #[.slice Ao20 t170.length co20, .bool true] 24 (0, 0)) bz_ hb); replace HB := hs_ HB hb; clear HO172 BK175; have HO172 := n0_; have HO178 := n1_; have BK175 := n2_; clear n0_ n1_ n2_; (try clear hb); (try clear hb2); (try clear hk); (try clear hi); (try clear ho0); obtain ⟨hcz23_0, hcz23_1, hfz23_0, hfz23_1⟩ := c2_ BK175; obtain ⟨Ao24, co24, eo24⟩ := Kd.R_slice HO178.out; subst eo24; have p180 : 0 ≤ (0 : Int) := (by omega); have q180 : 0 < (t176.length : Int) := of_decide_eq_true (by first | (with_reducible assumption) | assumption); obtain ⟨ad180, e180, hx180_0⟩ := Kd.at_string (Kd.R_reads' HO178.out).2.2 0 p180 q180; cases e180; have qi180 : (0 < t176.length) = True := eq_true (by omega); (try rw [show ((0 : Int)).toNat = 0 from rfl] at hx180_0); (try rw [Addr.add_zero'] at hx180_0); replace p180 := eq_true p180; replace q180 := eq_true q180))
                go_ret
                exact ⟨rt_, hb_⟩
            · rw [if_neg c8] at H
              exact absurd H (by simp)
          · rw [if_neg c7] at H
            have c7b0 : ((t176.length : Int) == 2) = false := beq_eq_false_iff_ne.mpr c7
            have c7b1 : ((t176.length : Int) != 2) = true := bne_iff_ne.mpr c7
            obtain rfl := Option.some.inj H
            go_enter Tryd.func14, Tryd.ntmps14
            go_wp2_with (first | ((with_reducible refine gate_callee (f := 35) rfl ?_); refine goesL_ (some 6) rfl rfl Tryd.func35 (by kernel_rfl) rfl #[.string (⟨#[47, 47, 97, 47, 42, 46, 112, 115, 100, 47, 46, 46, 46]⟩ : ByteArray)] rfl gl_ ?_; (with_reducible refine (pattern_Parse.calls k (⟨#[47, 47, 97, 47, 42, 46, 112, 115, 100, 47, 46, 46, 46]⟩ : ByteArray) t170 true t174 _ A1.out).mono ?_); rintro e w25 ⟨v171, rfl, ho0, hb⟩; refine ⟨_, rfl, ?_⟩; have n0_ := Aside0.mk (Kd.R_lower ho0 (below_size hb_)); replace HB := hs_ HB hb; have HO172 := n0_; clear n0_; (try clear hb); (try clear hb2); (try clear hk); (try clear hi); (try clear ho0)) | ((with_reducible refine gate_dst (N := 1) rfl ?_); (try (refine gate_guard (by rfl) ?_; dsimp only)); refine box_event ?hg (N := 1) ?hd (cs := #[.slice none 0 0, .bool false]) (t := 24) ?hr ?_; (case hd => rfl); (case hg => rfl); (case hr => first | (go_simp; done) | (go_simp; rfl)); intro gb175 hg w26 hbox hb; have BK175 := Aside0.mk hbox; have GW175 := gw_ HB hg; have GE175 := gw_ HB hg; replace HO172 := rb_ HO172 hb; replace HB := hs_ HB hb; clear hb hbox hg; obtain ⟨Ao27, co27, eo27⟩ := Kd.R_slice HO172.out; subst eo27; obtain ⟨hcz28_0, hcz28_1, hfz28_0, hfz28_1⟩ := c2_ BK175) | ((with_reducible refine gate_callee (f := 36) rfl ?_); refine goesL_ (some 11) rfl rfl Tryd.func36 (by kernel_rfl) rfl #[.agg #[.slice Ao27 t170.length co27, .bool true], .string (⟨#[47, 47, 97, 47, 120, 46, 112, 115, 100, 47, 98, 47, 99]⟩ : ByteArray)] rfl gl_ ?_; (with_reducible refine (pattern_Match.calls k _ _ t170 true (⟨#[47, 47, 97, 47, 120, 46, 112, 115, 100, 47, 98, 47, 99]⟩ : ByteArray) t176 true _ ?side1 ?side2 A2.out).mono ?_); (case side1 => refine (Kd.R_reads' (e := 9) (base := w.heap.size) (ok := fun k_ => True) (n := t170.length) (c := co27) ?_).2.2; exact (by (with_reducible repeat (first | apply Kd.R_alloc | apply Kd.R_drewN | apply Kd.R_drew)); exact (Kd.R_mono (Kd.R_far (p := ⟨gb175, 1, none⟩) (Kd.R_far (p := ⟨gb175, 0, none⟩) (Kd.R_types HO172.out BK175.out (by decide)) (fun _ hk => hk.2) (.slice Ao27 t170.length co27)) (fun _ hk => hk.2) (.bool true)) (fun _ h_ => h_.1)))); (case side2 => exact (Kd.R_reads' HO172.out).2.1); rintro e w29 ⟨v177, rfl, ho0, hb⟩; refine ⟨_, rfl, ?_⟩; have n0_ := Aside0.mk (Kd.R_elder' (by (with_reducible repeat (first | apply Kd.R_alloc | apply Kd.R_drewN | apply Kd.R_drew)); exact (Kd.R_mono (Kd.R_far (p := ⟨gb175, 1, none⟩) (Kd.R_far (p := ⟨gb175, 0, none⟩) (Kd.R_types HO172.out BK175.out (by decide)) (fun _ hk => hk.2) (.slice Ao27 t170.length co27)) (fun _ hk => hk.2) (.bool true)) (fun _ h_ => h_.1))) (Kd.R_base ho0) hb); have n1_ := Aside0.mk (Kd.R_lower (Kd.R_new' ho0 (Kd.R_lt (by (with_reducible repeat (first | apply Kd.R_alloc | apply Kd.R_drewN | apply Kd.R_drew)); exact (Kd.R_mono (Kd.R_far (p := ⟨gb175, 1, none⟩) (Kd.R_far (p := ⟨gb175, 0, none⟩) (Kd.R_types HO172.out BK175.out (by decide)) (fun _ hk => hk.2) (.slice Ao27 t170.length co27)) (fun _ hk => hk.2) (.bool true)) (fun _ h_ => h_.1))))) (below_size hb_)); have n2_ := Aside0.mk (blk_below (g := gb175) (o := .cells #[.slice Ao27 t170.length co27, .bool true] 24 (0, 0)) bz_ hb); replace HB := hs_ HB hb; clear HO172 BK175; have HO172 := n0_; have HO178 := n1_; have BK175 := n2_; clear n0_ n1_ n2_; (try clear hb); (try clear hb2); (try clear hk); (try clear hi); (try clear ho0); obtain ⟨hcz30_0, hcz30_1, hfz30_0, hfz30_1⟩ := c2_ BK175; obtain ⟨Ao31, co31, eo31⟩ := Kd.R_slice HO178.out; subst eo31))
            go_ret
            exact ⟨rt_, hb_⟩
        · replace c6 := Bool.eq_false_iff.mpr c6
          subst c6
          have H1 : (some false) = some r := by rw [if_neg (show ¬ (false = true) by decide)] at H; exact H
          clear H
          have H := H1
          clear H1
          obtain rfl := Option.some.inj H
          go_enter Tryd.func14, Tryd.ntmps14
          go_wp2_with (first | ((with_reducible refine gate_callee (f := 35) rfl ?_); refine goesL_ (some 6) rfl rfl Tryd.func35 (by kernel_rfl) rfl #[.string (⟨#[47, 47, 97, 47, 42, 46, 112, 115, 100, 47, 46, 46, 46]⟩ : ByteArray)] rfl gl_ ?_; (with_reducible refine (pattern_Parse.calls k (⟨#[47, 47, 97, 47, 42, 46, 112, 115, 100, 47, 46, 46, 46]⟩ : ByteArray) t170 true t174 _ A1.out).mono ?_); rintro e w32 ⟨v171, rfl, ho0, hb⟩; refine ⟨_, rfl, ?_⟩; have n0_ := Aside0.mk (Kd.R_lower ho0 (below_size hb_)); replace HB := hs_ HB hb; have HO172 := n0_; clear n0_; (try clear hb); (try clear hb2); (try clear hk); (try clear hi); (try clear ho0)) | ((with_reducible refine gate_dst (N := 1) rfl ?_); (try (refine gate_guard (by rfl) ?_; dsimp only)); refine box_event ?hg (N := 1) ?hd (cs := #[.slice none 0 0, .bool false]) (t := 24) ?hr ?_; (case hd => rfl); (case hg => rfl); (case hr => first | (go_simp; done) | (go_simp; rfl)); intro gb175 hg w33 hbox hb; have BK175 := Aside0.mk hbox; have GW175 := gw_ HB hg; have GE175 := gw_ HB hg; replace HO172 := rb_ HO172 hb; replace HB := hs_ HB hb; clear hb hbox hg; obtain ⟨Ao34, co34, eo34⟩ := Kd.R_slice HO172.out; subst eo34; obtain ⟨hcz35_0, hcz35_1, hfz35_0, hfz35_1⟩ := c2_ BK175) | ((with_reducible refine gate_callee (f := 36) rfl ?_); refine goesL_ (some 11) rfl rfl Tryd.func36 (by kernel_rfl) rfl #[.agg #[.slice Ao34 t170.length co34, .bool true], .string (⟨#[47, 47, 97, 47, 120, 46, 112, 115, 100, 47, 98, 47, 99]⟩ : ByteArray)] rfl gl_ ?_; (with_reducible refine (pattern_Match.calls k _ _ t170 true (⟨#[47, 47, 97, 47, 120, 46, 112, 115, 100, 47, 98, 47, 99]⟩ : ByteArray) t176 false _ ?side1 ?side2 A2.out).mono ?_); (case side1 => refine (Kd.R_reads' (e := 9) (base := w.heap.size) (ok := fun k_ => True) (n := t170.length) (c := co34) ?_).2.2; exact (by (with_reducible repeat (first | apply Kd.R_alloc | apply Kd.R_drewN | apply Kd.R_drew)); exact (Kd.R_mono (Kd.R_far (p := ⟨gb175, 1, none⟩) (Kd.R_far (p := ⟨gb175, 0, none⟩) (Kd.R_types HO172.out BK175.out (by decide)) (fun _ hk => hk.2) (.slice Ao34 t170.length co34)) (fun _ hk => hk.2) (.bool true)) (fun _ h_ => h_.1)))); (case side2 => exact (Kd.R_reads' HO172.out).2.1); rintro e w36 ⟨v177, rfl, ho0, hb⟩; refine ⟨_, rfl, ?_⟩; have n0_ := Aside0.mk (Kd.R_elder' (by (with_reducible repeat (first | apply Kd.R_alloc | apply Kd.R_drewN | apply Kd.R_drew)); exact (Kd.R_mono (Kd.R_far (p := ⟨gb175, 1, none⟩) (Kd.R_far (p := ⟨gb175, 0, none⟩) (Kd.R_types HO172.out BK175.out (by decide)) (fun _ hk => hk.2) (.slice Ao34 t170.length co34)) (fun _ hk => hk.2) (.bool true)) (fun _ h_ => h_.1))) (Kd.R_base ho0) hb); have n1_ := Aside0.mk (Kd.R_lower (Kd.R_new' ho0 (Kd.R_lt (by (with_reducible repeat (first | apply Kd.R_alloc | apply Kd.R_drewN | apply Kd.R_drew)); exact (Kd.R_mono (Kd.R_far (p := ⟨gb175, 1, none⟩) (Kd.R_far (p := ⟨gb175, 0, none⟩) (Kd.R_types HO172.out BK175.out (by decide)) (fun _ hk => hk.2) (.slice Ao34 t170.length co34)) (fun _ hk => hk.2) (.bool true)) (fun _ h_ => h_.1))))) (below_size hb_)); have n2_ := Aside0.mk (blk_below (g := gb175) (o := .cells #[.slice Ao34 t170.length co34, .bool true] 24 (0, 0)) bz_ hb); replace HB := hs_ HB hb; clear HO172 BK175; have HO172 := n0_; have HO178 := n1_; have BK175 := n2_; clear n0_ n1_ n2_; (try clear hb); (try clear hb2); (try clear hk); (try clear hi); (try clear ho0); obtain ⟨hcz37_0, hcz37_1, hfz37_0, hfz37_1⟩ := c2_ BK175))
          go_ret
          exact ⟨rt_, hb_⟩
      · rw [if_neg c5] at H
        have c5b0 : ((t170.length : Int) == 2) = false := beq_eq_false_iff_ne.mpr c5
        have c5b1 : ((t170.length : Int) != 2) = true := bne_iff_ne.mpr c5
        obtain rfl := Option.some.inj H
        go_enter Tryd.func14, Tryd.ntmps14
        go_wp2_with (first | ((with_reducible refine gate_callee (f := 35) rfl ?_); refine goesL_ (some 6) rfl rfl Tryd.func35 (by kernel_rfl) rfl #[.string (⟨#[47, 47, 97, 47, 42, 46, 112, 115, 100, 47, 46, 46, 46]⟩ : ByteArray)] rfl gl_ ?_; (with_reducible refine (pattern_Parse.calls k (⟨#[47, 47, 97, 47, 42, 46, 112, 115, 100, 47, 46, 46, 46]⟩ : ByteArray) t170 true t174 _ A1.out).mono ?_); rintro e w38 ⟨v171, rfl, ho0, hb⟩; refine ⟨_, rfl, ?_⟩; have n0_ := Aside0.mk (Kd.R_lower ho0 (below_size hb_)); replace HB := hs_ HB hb; have HO172 := n0_; clear n0_; (try clear hb); (try clear hb2); (try clear hk); (try clear hi); (try clear ho0)) | ((with_reducible refine gate_dst (N := 1) rfl ?_); (try (refine gate_guard (by rfl) ?_; dsimp only)); refine box_event ?hg (N := 1) ?hd (cs := #[.slice none 0 0, .bool false]) (t := 24) ?hr ?_; (case hd => rfl); (case hg => rfl); (case hr => first | (go_simp; done) | (go_simp; rfl)); intro gb175 hg w39 hbox hb; have BK175 := Aside0.mk hbox; have GW175 := gw_ HB hg; have GE175 := gw_ HB hg; replace HO172 := rb_ HO172 hb; replace HB := hs_ HB hb; clear hb hbox hg; obtain ⟨Ao40, co40, eo40⟩ := Kd.R_slice HO172.out; subst eo40; obtain ⟨hcz41_0, hcz41_1, hfz41_0, hfz41_1⟩ := c2_ BK175) | ((with_reducible refine gate_callee (f := 36) rfl ?_); refine goesL_ (some 11) rfl rfl Tryd.func36 (by kernel_rfl) rfl #[.agg #[.slice Ao40 t170.length co40, .bool true], .string (⟨#[47, 47, 97, 47, 120, 46, 112, 115, 100, 47, 98, 47, 99]⟩ : ByteArray)] rfl gl_ ?_; (with_reducible refine (pattern_Match.calls k _ _ t170 true (⟨#[47, 47, 97, 47, 120, 46, 112, 115, 100, 47, 98, 47, 99]⟩ : ByteArray) t176 t179 _ ?side1 ?side2 A2.out).mono ?_); (case side1 => refine (Kd.R_reads' (e := 9) (base := w.heap.size) (ok := fun k_ => True) (n := t170.length) (c := co40) ?_).2.2; exact (by (with_reducible repeat (first | apply Kd.R_alloc | apply Kd.R_drewN | apply Kd.R_drew)); exact (Kd.R_mono (Kd.R_far (p := ⟨gb175, 1, none⟩) (Kd.R_far (p := ⟨gb175, 0, none⟩) (Kd.R_types HO172.out BK175.out (by decide)) (fun _ hk => hk.2) (.slice Ao40 t170.length co40)) (fun _ hk => hk.2) (.bool true)) (fun _ h_ => h_.1)))); (case side2 => exact (Kd.R_reads' HO172.out).2.1); rintro e w42 ⟨v177, rfl, ho0, hb⟩; refine ⟨_, rfl, ?_⟩; have n0_ := Aside0.mk (Kd.R_elder' (by (with_reducible repeat (first | apply Kd.R_alloc | apply Kd.R_drewN | apply Kd.R_drew)); exact (Kd.R_mono (Kd.R_far (p := ⟨gb175, 1, none⟩) (Kd.R_far (p := ⟨gb175, 0, none⟩) (Kd.R_types HO172.out BK175.out (by decide)) (fun _ hk => hk.2) (.slice Ao40 t170.length co40)) (fun _ hk => hk.2) (.bool true)) (fun _ h_ => h_.1))) (Kd.R_base ho0) hb); have n1_ := Aside0.mk (Kd.R_lower (Kd.R_new' ho0 (Kd.R_lt (by (with_reducible repeat (first | apply Kd.R_alloc | apply Kd.R_drewN | apply Kd.R_drew)); exact (Kd.R_mono (Kd.R_far (p := ⟨gb175, 1, none⟩) (Kd.R_far (p := ⟨gb175, 0, none⟩) (Kd.R_types HO172.out BK175.out (by decide)) (fun _ hk => hk.2) (.slice Ao40 t170.length co40)) (fun _ hk => hk.2) (.bool true)) (fun _ h_ => h_.1))))) (below_size hb_)); have n2_ := Aside0.mk (blk_below (g := gb175) (o := .cells #[.slice Ao40 t170.length co40, .bool true] 24 (0, 0)) bz_ hb); replace HB := hs_ HB hb; clear HO172 BK175; have HO172 := n0_; have HO178 := n1_; have BK175 := n2_; clear n0_ n1_ n2_; (try clear hb); (try clear hb2); (try clear hk); (try clear hi); (try clear ho0); obtain ⟨hcz43_0, hcz43_1, hfz43_0, hfz43_1⟩ := c2_ BK175))
        go_ret
        exact ⟨rt_, hb_⟩
    · replace c4 := Bool.eq_false_iff.mpr c4
      subst c4
      have H1 : (some false) = some r := by rw [if_neg (show ¬ (false = true) by decide)] at H; exact H
      clear H
      have H := H1
      clear H1
      obtain rfl := Option.some.inj H
      go_enter Tryd.func14, Tryd.ntmps14
      go_wp2_with (first | ((with_reducible refine gate_callee (f := 35) rfl ?_); refine goesL_ (some 6) rfl rfl Tryd.func35 (by kernel_rfl) rfl #[.string (⟨#[47, 47, 97, 47, 42, 46, 112, 115, 100, 47, 46, 46, 46]⟩ : ByteArray)] rfl gl_ ?_; (with_reducible refine (pattern_Parse.calls k (⟨#[47, 47, 97, 47, 42, 46, 112, 115, 100, 47, 46, 46, 46]⟩ : ByteArray) t170 false t174 _ A1.out).mono ?_); rintro e w44 ⟨v171, rfl, ho0, hb⟩; refine ⟨_, rfl, ?_⟩; have n0_ := Aside0.mk (Kd.R_lower ho0 (below_size hb_)); replace HB := hs_ HB hb; have HO172 := n0_; clear n0_; (try clear hb); (try clear hb2); (try clear hk); (try clear hi); (try clear ho0)) | ((with_reducible refine gate_dst (N := 1) rfl ?_); (try (refine gate_guard (by rfl) ?_; dsimp only)); refine box_event ?hg (N := 1) ?hd (cs := #[.slice none 0 0, .bool false]) (t := 24) ?hr ?_; (case hd => rfl); (case hg => rfl); (case hr => first | (go_simp; done) | (go_simp; rfl)); intro gb175 hg w45 hbox hb; have BK175 := Aside0.mk hbox; have GW175 := gw_ HB hg; have GE175 := gw_ HB hg; replace HO172 := rb_ HO172 hb; replace HB := hs_ HB hb; clear hb hbox hg; obtain ⟨Ao46, co46, eo46⟩ := Kd.R_slice HO172.out; subst eo46; obtain ⟨hcz47_0, hcz47_1, hfz47_0, hfz47_1⟩ := c2_ BK175) | ((with_reducible refine gate_callee (f := 36) rfl ?_); refine goesL_ (some 11) rfl rfl Tryd.func36 (by kernel_rfl) rfl #[.agg #[.slice Ao46 t170.length co46, .bool false], .string (⟨#[47, 47, 97, 47, 120, 46, 112, 115, 100, 47, 98, 47, 99]⟩ : ByteArray)] rfl gl_ ?_; (with_reducible refine (pattern_Match.calls k _ _ t170 false (⟨#[47, 47, 97, 47, 120, 46, 112, 115, 100, 47, 98, 47, 99]⟩ : ByteArray) t176 t179 _ ?side1 ?side2 A2.out).mono ?_); (case side1 => refine (Kd.R_reads' (e := 9) (base := w.heap.size) (ok := fun k_ => True) (n := t170.length) (c := co46) ?_).2.2; exact (by (with_reducible repeat (first | apply Kd.R_alloc | apply Kd.R_drewN | apply Kd.R_drew)); exact (Kd.R_mono (Kd.R_far (p := ⟨gb175, 1, none⟩) (Kd.R_far (p := ⟨gb175, 0, none⟩) (Kd.R_types HO172.out BK175.out (by decide)) (fun _ hk => hk.2) (.slice Ao46 t170.length co46)) (fun _ hk => hk.2) (.bool false)) (fun _ h_ => h_.1)))); (case side2 => exact (Kd.R_reads' HO172.out).2.1); rintro e w48 ⟨v177, rfl, ho0, hb⟩; refine ⟨_, rfl, ?_⟩; have n0_ := Aside0.mk (Kd.R_elder' (by (with_reducible repeat (first | apply Kd.R_alloc | apply Kd.R_drewN | apply Kd.R_drew)); exact (Kd.R_mono (Kd.R_far (p := ⟨gb175, 1, none⟩) (Kd.R_far (p := ⟨gb175, 0, none⟩) (Kd.R_types HO172.out BK175.out (by decide)) (fun _ hk => hk.2) (.slice Ao46 t170.length co46)) (fun _ hk => hk.2) (.bool false)) (fun _ h_ => h_.1))) (Kd.R_base ho0) hb); have n1_ := Aside0.mk (Kd.R_lower (Kd.R_new' ho0 (Kd.R_lt (by (with_reducible repeat (first | apply Kd.R_alloc | apply Kd.R_drewN | apply Kd.R_drew)); exact (Kd.R_mono (Kd.R_far (p := ⟨gb175, 1, none⟩) (Kd.R_far (p := ⟨gb175, 0, none⟩) (Kd.R_types HO172.out BK175.out (by decide)) (fun _ hk => hk.2) (.slice Ao46 t170.length co46)) (fun _ hk => hk.2) (.bool false)) (fun _ h_ => h_.1))))) (below_size hb_)); have n2_ := Aside0.mk (blk_below (g := gb175) (o := .cells #[.slice Ao46 t170.length co46, .bool false] 24 (0, 0)) bz_ hb); replace HB := hs_ HB hb; clear HO172 BK175; have HO172 := n0_; have HO178 := n1_; have BK175 := n2_; clear n0_ n1_ n2_; (try clear hb); (try clear hb2); (try clear hk); (try clear hi); (try clear ho0); obtain ⟨hcz49_0, hcz49_1, hfz49_0, hfz49_1⟩ := c2_ BK175))
      go_ret
      exact ⟨rt_, hb_⟩
  · rw [if_neg c3] at H
    have c3b0 : (t174 == 0) = false := beq_eq_false_iff_ne.mpr c3
    have c3b1 : (t174 != 0) = true := bne_iff_ne.mpr c3
    obtain rfl := Option.some.inj H
    go_enter Tryd.func14, Tryd.ntmps14
    go_wp2_with (first | ((with_reducible refine gate_callee (f := 35) rfl ?_); refine goesL_ (some 6) rfl rfl Tryd.func35 (by kernel_rfl) rfl #[.string (⟨#[47, 47, 97, 47, 42, 46, 112, 115, 100, 47, 46, 46, 46]⟩ : ByteArray)] rfl gl_ ?_; (with_reducible refine (pattern_Parse.calls k (⟨#[47, 47, 97, 47, 42, 46, 112, 115, 100, 47, 46, 46, 46]⟩ : ByteArray) t170 t173 t174 _ A1.out).mono ?_); rintro e w50 ⟨v171, rfl, ho0, hb⟩; refine ⟨_, rfl, ?_⟩; have n0_ := Aside0.mk (Kd.R_lower ho0 (below_size hb_)); replace HB := hs_ HB hb; have HO172 := n0_; clear n0_; (try clear hb); (try clear hb2); (try clear hk); (try clear hi); (try clear ho0)) | ((with_reducible refine gate_dst (N := 1) rfl ?_); (try (refine gate_guard (by rfl) ?_; dsimp only)); refine box_event ?hg (N := 1) ?hd (cs := #[.slice none 0 0, .bool false]) (t := 24) ?hr ?_; (case hd => rfl); (case hg => rfl); (case hr => first | (go_simp; done) | (go_simp; rfl)); intro gb175 hg w51 hbox hb; have BK175 := Aside0.mk hbox; have GW175 := gw_ HB hg; have GE175 := gw_ HB hg; replace HO172 := rb_ HO172 hb; replace HB := hs_ HB hb; clear hb hbox hg; obtain ⟨Ao52, co52, eo52⟩ := Kd.R_slice HO172.out; subst eo52; obtain ⟨hcz53_0, hcz53_1, hfz53_0, hfz53_1⟩ := c2_ BK175) | ((with_reducible refine gate_callee (f := 36) rfl ?_); refine goesL_ (some 11) rfl rfl Tryd.func36 (by kernel_rfl) rfl #[.agg #[.slice Ao52 t170.length co52, .bool t173], .string (⟨#[47, 47, 97, 47, 120, 46, 112, 115, 100, 47, 98, 47, 99]⟩ : ByteArray)] rfl gl_ ?_; (with_reducible refine (pattern_Match.calls k _ _ t170 t173 (⟨#[47, 47, 97, 47, 120, 46, 112, 115, 100, 47, 98, 47, 99]⟩ : ByteArray) t176 t179 _ ?side1 ?side2 A2.out).mono ?_); (case side1 => refine (Kd.R_reads' (e := 9) (base := w.heap.size) (ok := fun k_ => True) (n := t170.length) (c := co52) ?_).2.2; exact (by (with_reducible repeat (first | apply Kd.R_alloc | apply Kd.R_drewN | apply Kd.R_drew)); exact (Kd.R_mono (Kd.R_far (p := ⟨gb175, 1, none⟩) (Kd.R_far (p := ⟨gb175, 0, none⟩) (Kd.R_types HO172.out BK175.out (by decide)) (fun _ hk => hk.2) (.slice Ao52 t170.length co52)) (fun _ hk => hk.2) (.bool t173)) (fun _ h_ => h_.1)))); (case side2 => exact (Kd.R_reads' HO172.out).2.1); rintro e w54 ⟨v177, rfl, ho0, hb⟩; refine ⟨_, rfl, ?_⟩; have n0_ := Aside0.mk (Kd.R_elder' (by (with_reducible repeat (first | apply Kd.R_alloc | apply Kd.R_drewN | apply Kd.R_drew)); exact (Kd.R_mono (Kd.R_far (p := ⟨gb175, 1, none⟩) (Kd.R_far (p := ⟨gb175, 0, none⟩) (Kd.R_types HO172.out BK175.out (by decide)) (fun _ hk => hk.2) (.slice Ao52 t170.length co52)) (fun _ hk => hk.2) (.bool t173)) (fun _ h_ => h_.1))) (Kd.R_base ho0) hb); have n1_ := Aside0.mk (Kd.R_lower (Kd.R_new' ho0 (Kd.R_lt (by (with_reducible repeat (first | apply Kd.R_alloc | apply Kd.R_drewN | apply Kd.R_drew)); exact (Kd.R_mono (Kd.R_far (p := ⟨gb175, 1, none⟩) (Kd.R_far (p := ⟨gb175, 0, none⟩) (Kd.R_types HO172.out BK175.out (by decide)) (fun _ hk => hk.2) (.slice Ao52 t170.length co52)) (fun _ hk => hk.2) (.bool t173)) (fun _ h_ => h_.1))))) (below_size hb_)); have n2_ := Aside0.mk (blk_below (g := gb175) (o := .cells #[.slice Ao52 t170.length co52, .bool t173] 24 (0, 0)) bz_ hb); replace HB := hs_ HB hb; clear HO172 BK175; have HO172 := n0_; have HO178 := n1_; have BK175 := n2_; clear n0_ n1_ n2_; (try clear hb); (try clear hb2); (try clear hk); (try clear hi); (try clear ho0)))
    go_ret
    exact ⟨rt_, hb_⟩

end Go.Proofs.YthclkdplihchjaaDoor.P

-- Written by a program of this session (wip/gen.py) over the kit's print: each Go function as a plain Lean function, and the proof that the Go code comes to it. Nothing here is trusted: Lean checks it.
import Derived.Test.YthclkdplihchjaaDoorPx0
import Derived.Test.YthclkdplihchjaaDoorSq
namespace Go.Proofs.YthclkdplihchjaaDoor.P
open Go.RowKit Go.Proofs.YthclkdplihchjaaDoorW.PrintWords Go.Proofs.YthclkdplihchjaaDoorW.PrintLast Go.Proofs.YthclkdplihchjaaDoorW.PrintMore
attribute [local go_sem] str_gtr str_leq str_geq max2_int min2_int max_two min_two max_three min_three max_four min_four   -- for this text's walks alone
set_option linter.unusedVariables false
set_option linter.unusedSimpArgs false

/-! ### stockyardref03_Same: function 17 -/
mutual
def stockyardref03_Same.j0 : Nat → Bool → List ByteArray → Bool → List ByteArray → Bool → Option (Bool)
  | 0, _, _, _, _, _ => none
  | k + 1, x20, x268000, x268001, x269000, x269001 => if x20 = true then (some false) else (stockyardref03_Same.l0 k x268000 (x268000.length : Int) 0 x269000 x269001)
def stockyardref03_Same.l0 : Nat → List ByteArray → Int → Int → List ByteArray → Bool → Option (Bool)
  | 0, _, _, _, _, _ => none
  | k + 1, x22, x23, x24, x269000, x269001 => if x24 < x23 then (if 0 ≤ x24 then (if x24 < (x22.length : Int) then (if x24 < (x269000.length : Int) then (if (rdOf ByteArray.empty x22 x24).toList = (rdOf ByteArray.empty x269000 x24).toList then (stockyardref03_Same.l0 k x22 x23 (wrap64 (x24 + 1)) x269000 x269001) else (some false)) else (none)) else (none)) else (none)) else (some true)
end
def stockyardref03_Same.f (k : Nat) (l0_0 : List ByteArray) (a0_1 : Bool) (l1_0 : List ByteArray) (a1_1 : Bool) : Option (Bool) := if (a0_1 != a1_1) = true then (stockyardref03_Same.j0 k true l0_0 a0_1 l1_0 a1_1) else (stockyardref03_Same.j0 k ((l0_0.length : Int) != (l1_0.length : Int)) l0_0 a0_1 l1_0 a1_1)
theorem stockyardref03_Same.mono_l : ∀ k, (∀ y0 y1 y2 y3 y4, LeO (stockyardref03_Same.j0 k y0 y1 y2 y3 y4) (stockyardref03_Same.j0 (k + 1) y0 y1 y2 y3 y4)) ∧ (∀ y0 y1 y2 y3 y4, LeO (stockyardref03_Same.l0 k y0 y1 y2 y3 y4) (stockyardref03_Same.l0 (k + 1) y0 y1 y2 y3 y4))
  | 0 => ⟨fun _ _ _ _ _ r h => by simp [stockyardref03_Same.j0] at h, fun _ _ _ _ _ r h => by simp [stockyardref03_Same.l0] at h⟩
  | k + 1 => by
    obtain ⟨ih0, ih1⟩ := stockyardref03_Same.mono_l k
    refine ⟨?_, ?_⟩
    · intro y0 y1 y2 y3 y4
      unfold stockyardref03_Same.j0
      repeat' first
      | (with_reducible exact ih0 _ _ _ _ _)
      | (with_reducible exact ih1 _ _ _ _ _)
      | (with_reducible exact LeO.refl _)
      | (with_reducible exact LeO.none _)
      | (with_reducible refine LeO.ite ?_ ?_)
      | (with_reducible refine LeO.bind ?_ (fun _ => ?_))
      | refine LeO.ite ?_ ?_
      | refine LeO.bind ?_ (fun _ => ?_)
    · intro y0 y1 y2 y3 y4
      unfold stockyardref03_Same.l0
      repeat' first
      | (with_reducible exact ih0 _ _ _ _ _)
      | (with_reducible exact ih1 _ _ _ _ _)
      | (with_reducible exact LeO.refl _)
      | (with_reducible exact LeO.none _)
      | (with_reducible refine LeO.ite ?_ ?_)
      | (with_reducible refine LeO.bind ?_ (fun _ => ?_))
      | refine LeO.ite ?_ ?_
      | refine LeO.bind ?_ (fun _ => ?_)
theorem stockyardref03_Same.mono : ∀ a0 a1 a2 a3 k, LeO (stockyardref03_Same.f k a0 a1 a2 a3) (stockyardref03_Same.f (k + 1) a0 a1 a2 a3) := by
  intro a0 a1 a2 a3 k
  obtain ⟨ih0, ih1⟩ := stockyardref03_Same.mono_l k
  unfold stockyardref03_Same.f
  repeat' first
      | (with_reducible exact ih0 _ _ _ _ _)
      | (with_reducible exact ih1 _ _ _ _ _)
      | (with_reducible exact LeO.refl _)
      | (with_reducible exact LeO.none _)
      | (with_reducible refine LeO.ite ?_ ?_)
      | (with_reducible refine LeO.bind ?_ (fun _ => ?_))
      | refine LeO.ite ?_ ?_
      | refine LeO.bind ?_ (fun _ => ?_)
set_option maxHeartbeats 8000000 in
set_option maxRecDepth 100000 in
theorem stockyardref03_Same.calls (k : Nat) (A0_0 : Option Addr) (c0_0 : Nat) (l0_0 : List ByteArray) (a0_1 : Bool) (A1_0 : Option Addr) (c1_0 : Nat) (l1_0 : List ByteArray) (a1_1 : Bool) (r : Bool) (w : World) (hr0_0 : Kd.C Kd.string w A0_0 l0_0.length l0_0) (hc0_0 : l0_0.length ≤ c0_0) (hr1_0 : Kd.C Kd.string w A1_0 l1_0.length l1_0) (hc1_0 : l1_0.length ≤ c1_0) (h : stockyardref03_Same.f k l0_0 a0_1 l1_0 a1_1 = some r) :
  Calls Tryd.prog 17 #[.agg #[.slice A0_0 l0_0.length c0_0, .bool a0_1], .agg #[.slice A1_0 l1_0.length c1_0, .bool a1_1]] w fun e w' => e = .returned (.bool r) ∧ Below w.heap.size w w' := by
 have hu24 := Tryd.underlying24
 have HR0_0 := Aside0.mk hr0_0
 have HC0_0 := Aside0.mk hc0_0
 clear hr0_0 hc0_0
 have HR1_0 := Aside0.mk hr1_0
 have HC1_0 := Aside0.mk hc1_0
 clear hr1_0 hc1_0
 have HB := Aside0.mk (Below.refl w.heap.size w)
 have H : (if (a0_1 != a1_1) = true then (stockyardref03_Same.j0 k true l0_0 a0_1 l1_0 a1_1) else (stockyardref03_Same.j0 k ((l0_0.length : Int) != (l1_0.length : Int)) l0_0 a0_1 l1_0 a1_1)) = some r := h
 clear h
 have HC3 := Aside0.mk H
 clear H
 go_enter Tryd.func17, Tryd.ntmps17
 go_upto_region 1 with (first | ((with_reducible refine gate_dst (N := 2) rfl ?_); (try (refine gate_guard (by rfl) ?_; dsimp only)); refine box_event ?hg (N := 2) ?hd (cs := #[.slice A0_0 l0_0.length c0_0, .bool a0_1]) (t := 24) ?hr ?_; (case hd => rfl); (case hg => rfl); (case hr => first | (go_simp; done) | (go_simp; rfl)); intro gb267 hg w4 hbox hb; have BK267 := Aside0.mk hbox; have GW267 := gw_ HB hg; have GE267 := gw_ HB hg; replace HB := hs_ HB hb; clear hb hbox hg) | ((with_reducible refine gate_dst (N := 3) rfl ?_); (try (refine gate_guard (by rfl) ?_; dsimp only)); refine box_event ?hg (N := 3) ?hd (cs := #[.slice A1_0 l1_0.length c1_0, .bool a1_1]) (t := 24) ?hr ?_; (case hd => rfl); (case hg => rfl); (case hr => first | (go_simp; done) | (go_simp; rfl)); intro gb268 hg w5 hbox hb; have BK268 := Aside0.mk hbox; have GW268 := gw_ HB hg; have GE268 := gw_ HB hg; have NB267_268 := nl_ BK267 hg; have NB268_267 := nr_ BK267 hg; replace BK267 := bb_ BK267 hb; replace HB := hs_ HB hb; clear hb hbox hg))
 (try simp only [Act.put, List.setIfInBounds_toArray, List.set_cons_zero, List.set_cons_succ])
 go_cut [20] (fun v20 wc => ∃ (kq : Nat) (x20_2 : Bool), v20 = .bool x20_2 ∧ Aside0 (stockyardref03_Same.j0 kq x20_2 l0_0 a0_1 l1_0 a1_1 = some r) ∧ Aside0 (kq ≤ k) ∧ Aside0 (wc.heap[gb267]? = some (.cells #[(.slice A0_0 l0_0.length c0_0), .bool a0_1] 24 (0, 0))) ∧ Aside0 (wc.heap[gb268]? = some (.cells #[(.slice A1_0 l1_0.length c1_0), .bool a1_1] 24 (0, 0))) ∧ Aside0 (Below w.heap.size w wc))
 case first =>
  have H := HC3.out
  clear HC3
  by_cases c6 : (a0_1 != a1_1) = true
  ·rw [if_pos c6] at H
   have c6b0 : (a0_1 != a1_1) = true := c6
   (try (have c6b1 : decide (a0_1 = a1_1) = false := by simpa using c6))
   (try (have c6b2 : (a0_1 == a1_1) = false := by simpa using c6))
   (try (have c6b3 : ¬ (a0_1 = a1_1) := by simpa using c6))
   clear c6
   (first | rw [c6b0] | (simp only [i64_w, i32_w]; rw [c6b0]) | skip)
   have H' := Aside0.mk H
   clear H
   have hnb7 := NB267_268.out
   have hnc7 := NB268_267.out
   obtain ⟨hcz8_0, hcz8_1, hfz8_0, hfz8_1⟩ := c2_ BK267
   obtain ⟨hcz9_0, hcz9_1, hfz9_0, hfz9_1⟩ := c2_ BK268
   go_wp2
   go_meet
   case rel => exact ⟨_, (true), rs_, H', ⟨om_⟩, ⟨bk_⟩, ⟨bk_⟩, ⟨hb_⟩⟩
  ·rw [if_neg c6] at H
   have c6b0 : (a0_1 != a1_1) = false := by simpa using c6
   (try (have c6b1 : decide (a0_1 = a1_1) = true := by simpa using c6))
   (try (have c6b2 : (a0_1 == a1_1) = true := by simpa using c6))
   clear c6
   (first | rw [c6b0] | (simp only [i64_w, i32_w]; rw [c6b0]) | skip)
   have H' := Aside0.mk H
   clear H
   have hnb10 := NB267_268.out
   have hnc10 := NB268_267.out
   obtain ⟨hcz11_0, hcz11_1, hfz11_0, hfz11_1⟩ := c2_ BK267
   obtain ⟨hcz12_0, hcz12_1, hfz12_0, hfz12_1⟩ := c2_ BK268
   go_wp2
   go_meet
   case rel => exact ⟨_, (((l0_0.length : Int) != (l1_0.length : Int))), rs_, H', ⟨om_⟩, ⟨bk_⟩, ⟨bk_⟩, ⟨hb_⟩⟩
 case rest =>
  clear HC3
  obtain ⟨kq, x20_2, rfl, HA, HJ2, BK267, BK268, HB⟩ := hcut
  cases kq with
  | zero => exact absurd HA.out (by simp [stockyardref03_Same.j0])
  | succ kj2 =>
   have H := HA.out
   clear HA
   simp only [stockyardref03_Same.j0] at H
   by_cases c13 : x20_2 = true
   ·subst c13
    have H1 : (some false) = some r := by rw [if_pos rfl] at H; exact H
    clear H
    have H := H1
    clear H1
    obtain rfl := Option.some.inj H
    go_wp2
    go_ret
    exact ⟨rt_, hb_⟩
   ·replace c13 := Bool.eq_false_iff.mpr c13
    subst c13
    have H1 : (stockyardref03_Same.l0 kj2 l0_0 (l0_0.length : Int) 0 l1_0 a1_1) = some r := by rw [if_neg (show ¬ (false = true) by decide)] at H; exact H
    clear H
    have H := H1
    clear H1
    have H' := Aside0.mk H
    clear H
    have hnb14 := NB267_268.out
    have hnc14 := NB268_267.out
    obtain ⟨hcz15_0, hcz15_1, hfz15_0, hfz15_1⟩ := c2_ BK267
    go_wp2
    go_loopg [24] kj2 (fun kq v24 w' => ∃ (x24_2 : Int), v24 = .int .i64 x24_2 ∧ Aside0 (stockyardref03_Same.l0 kq l0_0 (l0_0.length : Int) x24_2 l1_0 a1_1 = some r) ∧ Aside0 (kq ≤ kj2) ∧ Aside0 (w'.heap[gb267]? = some (.cells #[(.slice A0_0 l0_0.length c0_0), .bool a0_1] 24 (0, 0))) ∧ Aside0 (w'.heap[gb268]? = some (.cells #[(.slice A1_0 l1_0.length c1_0), .bool a1_1] 24 (0, 0))) ∧ Aside0 (Below w.heap.size w w'))
    case atStart => exact ⟨(0), rs_, H', ⟨Nat.le_refl _⟩, ⟨bk_⟩, ⟨bk_⟩, ⟨hb_⟩⟩
    case round =>
     clear H'
     (try clear c13); (try clear hcz15_0); (try clear hcz15_1); (try clear hfz15_0); (try clear hfz15_1)
     obtain ⟨x24_2, rfl, HA, HK2, BK267, BK268, HB⟩ := hrel
     cases gk with
     | zero => exact absurd HA.out (by simp [stockyardref03_Same.l0])
     | succ k2 =>
      have H := HA.out
      clear HA
      simp only [stockyardref03_Same.l0] at H
      by_cases c16 : x24_2 < (l0_0.length : Int)
      ·rw [if_pos c16] at H
       have c16b0 : decide (x24_2 < (l0_0.length : Int)) = true := decide_eq_true c16
       clear c16
       by_cases c17 : 0 ≤ x24_2
       ·rw [if_pos c17] at H
        have c17b0 : decide (0 ≤ x24_2) = true := decide_eq_true c17
        clear c17
        by_cases c18 : x24_2 < (l0_0.length : Int)
        ·rw [if_pos c18] at H
         have c18b0 : decide (x24_2 < (l0_0.length : Int)) = true := decide_eq_true c18
         clear c18
         by_cases c19 : x24_2 < (l1_0.length : Int)
         ·rw [if_pos c19] at H
          have c19b0 : decide (x24_2 < (l1_0.length : Int)) = true := decide_eq_true c19
          clear c19
          by_cases c20 : (rdOf ByteArray.empty l0_0 x24_2).toList = (rdOf ByteArray.empty l1_0 x24_2).toList
          ·rw [if_pos c20] at H
           have c20b0 : ((rdOf ByteArray.empty l0_0 x24_2).toList == (rdOf ByteArray.empty l1_0 x24_2).toList) = true := beq_iff_eq.mpr c20
           have c20b1 : ((rdOf ByteArray.empty l0_0 x24_2).toList != (rdOf ByteArray.empty l1_0 x24_2).toList) = false := bne_eq_false_iff_eq.mpr c20
           clear c20
           have H' := Aside0.mk H
           clear H
           have p269 : 0 ≤ (x24_2 : Int) := of_decide_eq_true as_
           have q269 : x24_2 < (l0_0.length : Int) := of_decide_eq_true as_
           obtain ⟨ad269, e269, hx269_0⟩ := Kd.at_string HR0_0.out x24_2 p269 q269
           cases e269
           replace hx269_0 := (HB.out.cell (World.block_lt_of_cell? w _ hx269_0)).trans hx269_0
           replace p269 := eq_true p269
           replace q269 := eq_true q269
           have hnb21 := NB268_267.out
           have hnc21 := NB267_268.out
           obtain ⟨hcz22_0, hcz22_1, hfz22_0, hfz22_1⟩ := c2_ BK268
           have p270 : 0 ≤ (x24_2 : Int) := of_decide_eq_true as_
           have q270 : x24_2 < (l1_0.length : Int) := of_decide_eq_true as_
           obtain ⟨ad270, e270, hx270_0⟩ := Kd.at_string HR1_0.out x24_2 p270 q270
           cases e270
           replace hx270_0 := (HB.out.cell (World.block_lt_of_cell? w _ hx270_0)).trans hx270_0
           replace p270 := eq_true p270
           replace q270 := eq_true q270
           go_wp2
           go_roundg k2
           case measure => have := HJ2.out; have := HK2.out; omega
           case rel => exact ⟨(wrap64 (x24_2 + 1)), rs_, H', ⟨by have := HJ2.out; have := HK2.out; omega⟩, ⟨bk_⟩, ⟨bk_⟩, ⟨hb_⟩⟩
          ·rw [if_neg c20] at H
           have c20b0 : ((rdOf ByteArray.empty l0_0 x24_2).toList == (rdOf ByteArray.empty l1_0 x24_2).toList) = false := beq_eq_false_iff_ne.mpr c20
           have c20b1 : ((rdOf ByteArray.empty l0_0 x24_2).toList != (rdOf ByteArray.empty l1_0 x24_2).toList) = true := bne_iff_ne.mpr c20
           obtain rfl := Option.some.inj H
           have p269 : 0 ≤ (x24_2 : Int) := of_decide_eq_true as_
           have q269 : x24_2 < (l0_0.length : Int) := of_decide_eq_true as_
           obtain ⟨ad269, e269, hx269_0⟩ := Kd.at_string HR0_0.out x24_2 p269 q269
           cases e269
           replace hx269_0 := (HB.out.cell (World.block_lt_of_cell? w _ hx269_0)).trans hx269_0
           replace p269 := eq_true p269
           replace q269 := eq_true q269
           have hnb23 := NB268_267.out
           have hnc23 := NB267_268.out
           obtain ⟨hcz24_0, hcz24_1, hfz24_0, hfz24_1⟩ := c2_ BK268
           have p270 : 0 ≤ (x24_2 : Int) := of_decide_eq_true as_
           have q270 : x24_2 < (l1_0.length : Int) := of_decide_eq_true as_
           obtain ⟨ad270, e270, hx270_0⟩ := Kd.at_string HR1_0.out x24_2 p270 q270
           cases e270
           replace hx270_0 := (HB.out.cell (World.block_lt_of_cell? w _ hx270_0)).trans hx270_0
           replace p270 := eq_true p270
           replace q270 := eq_true q270
           go_wp2
           go_ret
           exact ⟨rt_, hb_⟩
         ·rw [if_neg c19] at H
          exact absurd H (by simp)
        ·rw [if_neg c18] at H
         exact absurd H (by simp)
       ·rw [if_neg c17] at H
        exact absurd H (by simp)
      ·rw [if_neg c16] at H
       have c16b0 : decide (x24_2 < (l0_0.length : Int)) = false := decide_eq_false c16
       clear c16
       obtain rfl := Option.some.inj H
       go_wp2
       go_ret
       exact ⟨rt_, hb_⟩

/-! ### stockyardref04_Same: function 25 -/
def stockyardref04_Same.f (k : Nat) (a0_0 : Bool) (l0_1 : List ByteArray) (a0_2 : Bool) (l0_3 : List ByteArray) (a0_4 : Bool) (a1_0 : Bool) (l1_1 : List ByteArray) (a1_2 : Bool) (l1_3 : List ByteArray) (a1_4 : Bool) : Option (Bool) := if (a0_0 == a1_0) = true then ((stockyardref03_Same.f k l0_1 a0_2 l1_1 a1_2).bind fun t550 => (if t550 = true then ((stockyardref03_Same.f k l0_3 a0_4 l1_3 a1_4).bind fun t551 => (some t551)) else (some false))) else (some false)
theorem stockyardref04_Same.mono : ∀ a0 a1 a2 a3 a4 a5 a6 a7 a8 a9 k, LeO (stockyardref04_Same.f k a0 a1 a2 a3 a4 a5 a6 a7 a8 a9) (stockyardref04_Same.f (k + 1) a0 a1 a2 a3 a4 a5 a6 a7 a8 a9) := by
  intro a0 a1 a2 a3 a4 a5 a6 a7 a8 a9 k
  unfold stockyardref04_Same.f
  repeat' first
      | (with_reducible exact stockyardref03_Same.mono _ _ _ _ _)
      | (with_reducible exact LeO.refl _)
      | (with_reducible exact LeO.none _)
      | (with_reducible refine LeO.ite ?_ ?_)
      | (with_reducible refine LeO.bind ?_ (fun _ => ?_))
      | refine LeO.ite ?_ ?_
      | refine LeO.bind ?_ (fun _ => ?_)
set_option maxHeartbeats 8000000 in
set_option maxRecDepth 100000 in
theorem stockyardref04_Same.calls (k : Nat) (a0_0 : Bool) (A0_1 : Option Addr) (c0_1 : Nat) (l0_1 : List ByteArray) (a0_2 : Bool) (A0_3 : Option Addr) (c0_3 : Nat) (l0_3 : List ByteArray) (a0_4 : Bool) (a1_0 : Bool) (A1_1 : Option Addr) (c1_1 : Nat) (l1_1 : List ByteArray) (a1_2 : Bool) (A1_3 : Option Addr) (c1_3 : Nat) (l1_3 : List ByteArray) (a1_4 : Bool) (r : Bool) (w : World) (hr0_1 : Kd.C Kd.string w A0_1 l0_1.length l0_1) (hc0_1 : l0_1.length ≤ c0_1) (hr0_3 : Kd.C Kd.string w A0_3 l0_3.length l0_3) (hc0_3 : l0_3.length ≤ c0_3) (hr1_1 : Kd.C Kd.string w A1_1 l1_1.length l1_1) (hc1_1 : l1_1.length ≤ c1_1) (hr1_3 : Kd.C Kd.string w A1_3 l1_3.length l1_3) (hc1_3 : l1_3.length ≤ c1_3) (h : stockyardref04_Same.f k a0_0 l0_1 a0_2 l0_3 a0_4 a1_0 l1_1 a1_2 l1_3 a1_4 = some r) :
  Calls Tryd.prog 25 #[.agg #[.bool a0_0, .slice A0_1 l0_1.length c0_1, .bool a0_2, .slice A0_3 l0_3.length c0_3, .bool a0_4], .agg #[.bool a1_0, .slice A1_1 l1_1.length c1_1, .bool a1_2, .slice A1_3 l1_3.length c1_3, .bool a1_4]] w fun e w' => e = .returned (.bool r) ∧ Below w.heap.size w w' := by
 have hu39 := Tryd.underlying39
 have hu24 := Tryd.underlying24
 have HR0_1 := Aside0.mk hr0_1
 have HC0_1 := Aside0.mk hc0_1
 clear hr0_1 hc0_1
 have HR0_3 := Aside0.mk hr0_3
 have HC0_3 := Aside0.mk hc0_3
 clear hr0_3 hc0_3
 have HR1_1 := Aside0.mk hr1_1
 have HC1_1 := Aside0.mk hc1_1
 clear hr1_1 hc1_1
 have HR1_3 := Aside0.mk hr1_3
 have HC1_3 := Aside0.mk hc1_3
 clear hr1_3 hc1_3
 have HB := Aside0.mk (Below.refl w.heap.size w)
 have H : (if (a0_0 == a1_0) = true then ((stockyardref03_Same.f k l0_1 a0_2 l1_1 a1_2).bind fun t550 => (if t550 = true then ((stockyardref03_Same.f k l0_3 a0_4 l1_3 a1_4).bind fun t551 => (some t551)) else (some false))) else (some false)) = some r := h
 clear h
 by_cases c3 : (a0_0 == a1_0) = true
 ·rw [if_pos c3] at H
  have c3b0 : (a0_0 == a1_0) = true := c3
  (try (have c3b1 : decide (a0_0 = a1_0) = true := by simpa using c3))
  (try (have c3b2 : (a0_0 == a1_0) = true := by simpa using c3))
  clear c3
  replace H := Option.bind_eq_some_iff.mp H
  obtain ⟨t550, A40, H⟩ := H
  replace H : (if t550 = true then ((stockyardref03_Same.f k l0_3 a0_4 l1_3 a1_4).bind fun t551 => (some t551)) else (some false)) = some r := H
  have A4 := Aside0.mk A40
  clear A40
  by_cases c5 : t550 = true
  ·subst c5
   have H1 : ((stockyardref03_Same.f k l0_3 a0_4 l1_3 a1_4).bind fun t551 => (some t551)) = some r := by rw [if_pos rfl] at H; exact H
   clear H
   have H := H1
   clear H1
   replace H := Option.bind_eq_some_iff.mp H
   obtain ⟨t551, A60, H⟩ := H
   replace H : (some t551) = some r := H
   have A6 := Aside0.mk A60
   clear A60
   obtain rfl := Option.some.inj H
   go_enter Tryd.func25, Tryd.ntmps25
   go_wp2_with (first | ((with_reducible refine gate_dst (N := 2) rfl ?_); refine box_event ?hg (N := 2) ?hd (cs := #[.bool a0_0, .slice A0_1 l0_1.length c0_1, .bool a0_2, .slice A0_3 l0_3.length c0_3, .bool a0_4]) (t := 39) ?hr ?_; (case hd => rfl); (case hg => rfl); (case hr => first | (go_simp; done) | (go_simp; rfl)); intro gb548 hg w7 hbox hb; have BK548 := Aside0.mk hbox; have GW548 := gw_ HB hg; have GE548 := gw_ HB hg; replace HB := hs_ HB hb; clear hb hbox hg) | ((with_reducible refine gate_dst (N := 3) rfl ?_); refine box_event ?hg (N := 3) ?hd (cs := #[.bool a1_0, .slice A1_1 l1_1.length c1_1, .bool a1_2, .slice A1_3 l1_3.length c1_3, .bool a1_4]) (t := 39) ?hr ?_; (case hd => rfl); (case hg => rfl); (case hr => first | (go_simp; done) | (go_simp; rfl)); intro gb549 hg w8 hbox hb; have BK549 := Aside0.mk hbox; have GW549 := gw_ HB hg; have GE549 := gw_ HB hg; have NB548_549 := nl_ BK548 hg; have NB549_548 := nr_ BK548 hg; replace BK548 := bb_ BK548 hb; replace HB := hs_ HB hb; clear hb hbox hg; have hnb9 := NB548_549.out; have hnc9 := NB549_548.out; obtain ⟨hcz10_0, hcz10_1, hcz10_2, hcz10_3, hcz10_4, hfz10_0, hfz10_1, hfz10_2, hfz10_3, hfz10_4⟩ := c5_ BK548; obtain ⟨hcz11_0, hcz11_1, hcz11_2, hcz11_3, hcz11_4, hfz11_0, hfz11_1, hfz11_2, hfz11_3, hfz11_4⟩ := c5_ BK549) | (go_at_call 17; (with_reducible refine (stockyardref03_Same.calls k _ _ l0_1 a0_2 _ _ l1_1 a1_2 true _ ?side1 ?side2 ?side3 ?side4 A4.out).mono ?_); (case side1 => exact sd_); (case side2 => exact HC0_1.out); (case side3 => exact sd_); (case side4 => exact HC1_1.out); rintro e w12 ⟨rfl, hb⟩; replace BK548 := bb_ BK548 hb; replace BK549 := bb_ BK549 hb; replace HB := hs_ HB hb; (try clear hb); obtain ⟨hcz13_0, hcz13_1, hcz13_2, hcz13_3, hcz13_4, hfz13_0, hfz13_1, hfz13_2, hfz13_3, hfz13_4⟩ := c5_ BK548; obtain ⟨hcz14_0, hcz14_1, hcz14_2, hcz14_3, hcz14_4, hfz14_0, hfz14_1, hfz14_2, hfz14_3, hfz14_4⟩ := c5_ BK549) | (go_at_call 17; (with_reducible refine (stockyardref03_Same.calls k _ _ l0_3 a0_4 _ _ l1_3 a1_4 t551 _ ?side1 ?side2 ?side3 ?side4 A6.out).mono ?_); (case side1 => exact sd_); (case side2 => exact HC0_3.out); (case side3 => exact sd_); (case side4 => exact HC1_3.out); rintro e w15 ⟨rfl, hb⟩; replace BK548 := bb_ BK548 hb; replace BK549 := bb_ BK549 hb; replace HB := hs_ HB hb; (try clear hb)))
   go_ret
   exact ⟨rt_, hb_⟩
  ·replace c5 := Bool.eq_false_iff.mpr c5
   subst c5
   have H1 : (some false) = some r := by rw [if_neg (show ¬ (false = true) by decide)] at H; exact H
   clear H
   have H := H1
   clear H1
   obtain rfl := Option.some.inj H
   go_enter Tryd.func25, Tryd.ntmps25
   go_wp2_with (first | ((with_reducible refine gate_dst (N := 2) rfl ?_); refine box_event ?hg (N := 2) ?hd (cs := #[.bool a0_0, .slice A0_1 l0_1.length c0_1, .bool a0_2, .slice A0_3 l0_3.length c0_3, .bool a0_4]) (t := 39) ?hr ?_; (case hd => rfl); (case hg => rfl); (case hr => first | (go_simp; done) | (go_simp; rfl)); intro gb548 hg w16 hbox hb; have BK548 := Aside0.mk hbox; have GW548 := gw_ HB hg; have GE548 := gw_ HB hg; replace HB := hs_ HB hb; clear hb hbox hg) | ((with_reducible refine gate_dst (N := 3) rfl ?_); refine box_event ?hg (N := 3) ?hd (cs := #[.bool a1_0, .slice A1_1 l1_1.length c1_1, .bool a1_2, .slice A1_3 l1_3.length c1_3, .bool a1_4]) (t := 39) ?hr ?_; (case hd => rfl); (case hg => rfl); (case hr => first | (go_simp; done) | (go_simp; rfl)); intro gb549 hg w17 hbox hb; have BK549 := Aside0.mk hbox; have GW549 := gw_ HB hg; have GE549 := gw_ HB hg; have NB548_549 := nl_ BK548 hg; have NB549_548 := nr_ BK548 hg; replace BK548 := bb_ BK548 hb; replace HB := hs_ HB hb; clear hb hbox hg; have hnb18 := NB548_549.out; have hnc18 := NB549_548.out; obtain ⟨hcz19_0, hcz19_1, hcz19_2, hcz19_3, hcz19_4, hfz19_0, hfz19_1, hfz19_2, hfz19_3, hfz19_4⟩ := c5_ BK548; obtain ⟨hcz20_0, hcz20_1, hcz20_2, hcz20_3, hcz20_4, hfz20_0, hfz20_1, hfz20_2, hfz20_3, hfz20_4⟩ := c5_ BK549) | (go_at_call 17; (with_reducible refine (stockyardref03_Same.calls k _ _ l0_1 a0_2 _ _ l1_1 a1_2 false _ ?side1 ?side2 ?side3 ?side4 A4.out).mono ?_); (case side1 => exact sd_); (case side2 => exact HC0_1.out); (case side3 => exact sd_); (case side4 => exact HC1_1.out); rintro e w21 ⟨rfl, hb⟩; replace BK548 := bb_ BK548 hb; replace BK549 := bb_ BK549 hb; replace HB := hs_ HB hb; (try clear hb)))
   go_ret
   exact ⟨rt_, hb_⟩
 ·rw [if_neg c3] at H
  have c3b0 : (a0_0 == a1_0) = false := by simpa using c3
  (try (have c3b1 : decide (a0_0 = a1_0) = false := by simpa using c3))
  (try (have c3b2 : (a0_0 == a1_0) = false := by simpa using c3))
  (try (have c3b3 : ¬ (a0_0 = a1_0) := by simpa using c3))
  clear c3
  obtain rfl := Option.some.inj H
  go_enter Tryd.func25, Tryd.ntmps25
  go_wp2_with (first | ((with_reducible refine gate_dst (N := 2) rfl ?_); refine box_event ?hg (N := 2) ?hd (cs := #[.bool a0_0, .slice A0_1 l0_1.length c0_1, .bool a0_2, .slice A0_3 l0_3.length c0_3, .bool a0_4]) (t := 39) ?hr ?_; (case hd => rfl); (case hg => rfl); (case hr => first | (go_simp; done) | (go_simp; rfl)); intro gb548 hg w22 hbox hb; have BK548 := Aside0.mk hbox; have GW548 := gw_ HB hg; have GE548 := gw_ HB hg; replace HB := hs_ HB hb; clear hb hbox hg) | ((with_reducible refine gate_dst (N := 3) rfl ?_); refine box_event ?hg (N := 3) ?hd (cs := #[.bool a1_0, .slice A1_1 l1_1.length c1_1, .bool a1_2, .slice A1_3 l1_3.length c1_3, .bool a1_4]) (t := 39) ?hr ?_; (case hd => rfl); (case hg => rfl); (case hr => first | (go_simp; done) | (go_simp; rfl)); intro gb549 hg w23 hbox hb; have BK549 := Aside0.mk hbox; have GW549 := gw_ HB hg; have GE549 := gw_ HB hg; have NB548_549 := nl_ BK548 hg; have NB549_548 := nr_ BK548 hg; replace BK548 := bb_ BK548 hb; replace HB := hs_ HB hb; clear hb hbox hg; have hnb24 := NB548_549.out; have hnc24 := NB549_548.out; obtain ⟨hcz25_0, hcz25_1, hcz25_2, hcz25_3, hcz25_4, hfz25_0, hfz25_1, hfz25_2, hfz25_3, hfz25_4⟩ := c5_ BK548; obtain ⟨hcz26_0, hcz26_1, hcz26_2, hcz26_3, hcz26_4, hfz26_0, hfz26_1, hfz26_2, hfz26_3, hfz26_4⟩ := c5_ BK549))
  go_ret
  exact ⟨rt_, hb_⟩

end Go.Proofs.YthclkdplihchjaaDoor.P

/-
  Layer 20: claims: which are sound, at which times they are holding, when they end. No project text.
-/
import Derived.Test.YtlljblcjjcinnaaDoorPath
import Derived.Test.YtlljblcjjcinnaaDoorPx2
import Derived.Test.YtlljblcjjcinnaaDoorPx3
import Derived.Test.YtlljblcjjcinnaaDoorPx4
import Derived.Test.YtlljblcjjcinnaaDoorPx6
import Derived.Test.YtlljblcjjcinnaaDoorPx7
import Derived.Test.YtlljblcjjcinnaaDoorPx8
namespace Go.Proofs.YtlljblcjjcinnaaDoor.P
open Go.RowKit Go.Proofs.YtlljblcjjcinnaaDoorW.PrintWords
set_option linter.unusedVariables false
set_option linter.unusedSimpArgs false

def boundsB (n : Nat) (fe se te dr : Int) : Bool := decide (n ≤ 200 ∧ 1 ≤ fe ∧ 0 ≤ se ∧ se ≤ 1099511627776 ∧ 1 ≤ te ∧ te ≤ 1048576 ∧ 0 ≤ dr ∧ dr ≤ 500)
theorem bounds_no {n : Nat} {fe se te dr : Int} (h : ¬ (n ≤ 200 ∧ 1 ≤ fe ∧ 0 ≤ se ∧ se ≤ 1099511627776 ∧ 1 ≤ te ∧ te ≤ 1048576 ∧ 0 ≤ dr ∧ dr ≤ 500)) : false = boundsB n fe se te dr := (decide_eq_false h).symm
theorem bounds_last {n : Nat} {fe se te dr : Int} (h : n ≤ 200 ∧ 1 ≤ fe ∧ 0 ≤ se ∧ se ≤ 1099511627776 ∧ 1 ≤ te ∧ te ≤ 1048576 ∧ 0 ≤ dr) : decide (dr ≤ 500) = boundsB n fe se te dr := by
  unfold boundsB
  rw [decide_eq_decide]
  omega
def soundB (p : ByteArray) (fe se te dr : Int) : Bool := (pathL (L p)).isSome && boundsB p.size fe se te dr
theorem sound_iff {p : ByteArray} {fe se te dr : Int} : soundB p fe se te dr = true ↔ (pathL (L p)).isSome = true ∧ p.size ≤ 200 ∧ 1 ≤ fe ∧ 0 ≤ se ∧ se ≤ 1099511627776 ∧ 1 ≤ te ∧ te ≤ 1048576 ∧ 0 ≤ dr ∧ dr ≤ 500 := by
  unfold soundB boundsB
  rw [Bool.and_eq_true, decide_eq_true_iff]
def mostZ (e dr : Int) : Int := e + (e * dr + 999) / 1000 + 1
def holdB (p : ByteArray) (fe se te dr now : Int) : Bool := soundB p fe se te dr && decide (se ≤ now ∧ now ≤ 1099511627776 ∧ mostZ (now - se) dr < te)
theorem sound_ev (p : ByteArray) (fe se te dr : Int) (hp : p.size ≤ 1048576) : Ev (fun k => offline_sound.f k p fe se te dr) (soundB p fe se te dr) := by
  simp only [offline_sound.f, offline_within.f]
  rw [Ev.bind_iff (valid_ev p hp)]
  unfold soundB
  cases h : (pathL (L p)).isSome
  · simp only [Bool.false_eq_true, if_false, Bool.false_and]
    exact Ev.now _
  · simp only [if_true, Bool.true_and]
    by_cases h1 : (p.size : Int) ≤ 200
    · by_cases h2 : fe ≥ 1
      · by_cases h3 : 0 ≤ se
        · by_cases h4 : se ≤ 1099511627776
          · by_cases h5 : 1 ≤ te
            · by_cases h6 : te ≤ 1048576
              · by_cases h7 : 0 ≤ dr
                · simp only [h1, h2, h3, h4, h5, h6, h7, if_true, decide_true, Option.bind_some]
                  rw [Ev.some_iff]
                  exact bounds_last (by omega)
                · simp only [h1, h2, h3, h4, h5, h6, h7, if_true, if_false, decide_true, Option.bind_some]
                  rw [Ev.some_iff]
                  exact bounds_no (by omega)
              · simp only [h1, h2, h3, h4, h5, h6, if_true, if_false, decide_true, decide_false, Option.bind_some, Bool.false_eq_true]
                rw [Ev.some_iff]
                exact bounds_no (by omega)
            · simp only [h1, h2, h3, h4, h5, if_true, if_false, decide_true, decide_false, Option.bind_some, Bool.false_eq_true]
              rw [Ev.some_iff]
              exact bounds_no (by omega)
          · simp only [h1, h2, h3, h4, if_true, if_false, decide_true, decide_false, Option.bind_some, Bool.false_eq_true]
            rw [Ev.some_iff]
            exact bounds_no (by omega)
        · simp only [h1, h2, h3, if_true, if_false, decide_true, decide_false, Option.bind_some, Bool.false_eq_true]
          rw [Ev.some_iff]
          exact bounds_no (by omega)
      · simp only [h1, h2, if_true, if_false]
        rw [Ev.some_iff]
        exact bounds_no (by omega)
    · simp only [h1, if_false]
      rw [Ev.some_iff]
      exact bounds_no (by omega)
theorem usable_ev (p : ByteArray) (hp : p.size ≤ 1048576) : Ev (fun k => stockyardref19_Usable.f k p) ((pathL (L p)).isSome && decide (p.size ≤ 200)) := by
  simp only [stockyardref19_Usable.f]
  rw [Ev.bind_iff (refpath_ev p hp)]
  cases h : pathL (L p) with
  | none => exact Ev.now _
  | some q =>
    simp only [dirR, if_true, Option.isSome_some, Bool.true_and]
    rw [Ev.some_iff, decide_eq_decide]
    omega
theorem refsound_ev (p : ByteArray) (fe se te dr : Int) (hp : p.size ≤ 1048576) : Ev (fun k => stockyardref20_Sound.f k p fe se te dr) (soundB p fe se te dr) := by
  simp only [stockyardref20_Sound.f]
  rw [Ev.bind_iff (usable_ev p hp)]
  unfold soundB
  cases h : (pathL (L p)).isSome
  · simp only [Bool.false_eq_true, if_false, Bool.false_and]
    exact Ev.now _
  · simp only [Bool.true_and, decide_eq_true_eq]
    by_cases h1 : p.size ≤ 200
    · simp only [h1, if_true]
      by_cases h2 : fe ≥ 1
      · by_cases h3 : se ≥ 0
        · by_cases h4 : se ≤ 1099511627776
          · by_cases h5 : te ≥ 1
            · by_cases h6 : te ≤ 1048576
              · by_cases h7 : dr ≥ 0
                · simp only [h2, h3, h4, h5, h6, h7, if_true]
                  rw [Ev.some_iff]
                  exact bounds_last (by omega)
                · simp only [h2, h3, h4, h5, h6, h7, if_true, if_false]
                  rw [Ev.some_iff]
                  exact bounds_no (by omega)
              · simp only [h2, h3, h4, h5, h6, if_true, if_false]
                rw [Ev.some_iff]
                exact bounds_no (by omega)
            · simp only [h2, h3, h4, h5, if_true, if_false]
              rw [Ev.some_iff]
              exact bounds_no (by omega)
          · simp only [h2, h3, h4, if_true, if_false]
            rw [Ev.some_iff]
            exact bounds_no (by omega)
        · simp only [h2, h3, if_true, if_false]
          rw [Ev.some_iff]
          exact bounds_no (by omega)
      · simp only [h2, if_false]
        rw [Ev.some_iff]
        exact bounds_no (by omega)
    · simp only [h1, if_false]
      rw [Ev.some_iff]
      exact bounds_no (by omega)
theorem prod_bound {e dr : Int} (h0 : 0 ≤ e) (h1 : e ≤ 1099511627776) (h2 : 0 ≤ dr) (h3 : dr ≤ 500) : 0 ≤ e * dr ∧ e * dr ≤ 549755813888000 := by
  refine ⟨Int.mul_nonneg h0 h2, ?_⟩
  have := Int.mul_le_mul h1 h3 h2 (by omega)
  omega
theorem most_eq {e dr : Int} (h0 : 0 ≤ e) (h1 : e ≤ 1099511627776) (h2 : 0 ≤ dr) (h3 : dr ≤ 500) : offline_most.f e dr = some (mostZ e dr) := by
  have hp := prod_bound h0 h1 h2 h3
  simp only [offline_most.f]
  unfold mostZ
  generalize e * dr = m at *
  rw [wrap64_id (x := m) (by omega) (by omega), wrap64_id (x := m + 999) (by omega) (by omega), Int.tdiv_eq_ediv_of_nonneg (by omega), wrap64_id (x := (m + 999) / 1000) (by omega) (by omega), wrap64_id (x := e + (m + 999) / 1000) (by omega) (by omega), wrap64_id (by omega) (by omega)]
theorem refmost_eq {e dr : Int} (h0 : 0 ≤ e) (h1 : e ≤ 1099511627776) (h2 : 0 ≤ dr) (h3 : dr ≤ 500) : stockyardref20_Most.f e dr = some (mostZ e dr) := most_eq h0 h1 h2 h3
theorem hold_ev (p : ByteArray) (fe se te dr now : Int) (hp : p.size ≤ 1048576) : Ev (fun k => offline_Holding.f k p fe se te dr now) (holdB p fe se te dr now) := by
  simp only [offline_Holding.f, offline_within.f]
  rw [Ev.bind_iff (sound_ev p fe se te dr hp)]
  unfold holdB
  cases h : soundB p fe se te dr
  · simp only [Bool.false_eq_true, if_false, Bool.false_and]
    exact Ev.now _
  · have hs := sound_iff.1 h
    simp only [if_true, Bool.true_and]
    by_cases h1 : se ≤ now
    · by_cases h2 : now ≤ 1099511627776
      · simp only [h1, h2, if_true, Option.bind_some, decide_true, true_and]
        rw [wrap64_id (by omega) (by omega), most_eq (by omega) (by omega) (by omega) (by omega)]
        exact Ev.now _
      · simp only [h1, h2, if_true, Option.bind_some, decide_false, Bool.false_eq_true, if_false, false_and, and_false]
        exact Ev.now _
    · simp only [h1, if_false, Option.bind_some, Bool.false_eq_true, false_and, decide_false]
      exact Ev.now _
theorem refhold_ev (p : ByteArray) (fe se te dr now : Int) (hp : p.size ≤ 1048576) : Ev (fun k => stockyardref20_Holding.f k p fe se te dr now) (holdB p fe se te dr now) := by
  simp only [stockyardref20_Holding.f]
  rw [Ev.bind_iff (refsound_ev p fe se te dr hp)]
  unfold holdB
  cases h : soundB p fe se te dr
  · simp only [Bool.false_eq_true, if_false, Bool.false_and]
    exact Ev.now _
  · have hs := sound_iff.1 h
    simp only [if_true, Bool.true_and]
    by_cases h1 : now ≥ se
    · have h1' : se ≤ now := h1
      by_cases h2 : now ≤ 1099511627776
      · simp only [h1, h1', h2, if_true, true_and]
        rw [wrap64_id (by omega) (by omega), refmost_eq (by omega) (by omega) (by omega) (by omega)]
        exact Ev.now _
      · simp only [h1, h2, if_true, if_false, false_and, and_false, decide_false]
        exact Ev.now _
    · have h1' : ¬ se ≤ now := h1
      simp only [h1, h1', if_false, false_and, decide_false]
      exact Ev.now _

/-! ### the end of a claim -/
theorem most_mono {x y dr : Int} (h : x ≤ y) (hd : 0 ≤ dr) : mostZ x dr ≤ mostZ y dr := by
  have h1 := Int.mul_le_mul_of_nonneg_right h hd
  unfold mostZ
  generalize x * dr = a at *
  generalize y * dr = b at *
  omega
/-- From Sent on the claim is holding just for e ticks. -/
def IsEnd (p : ByteArray) (fe se te dr e : Int) : Prop := ∀ x : Int, 0 ≤ x → (holdB p fe se te dr (se + x) = true ↔ x < e)
theorem hold_iff {p : ByteArray} {fe se te dr now : Int} (hs : soundB p fe se te dr = true) : holdB p fe se te dr now = true ↔ se ≤ now ∧ now ≤ 1099511627776 ∧ mostZ (now - se) dr < te := by
  unfold holdB
  rw [hs, Bool.true_and, decide_eq_true_iff]
theorem hold_down {p : ByteArray} {fe se te dr : Int} (hs : soundB p fe se te dr = true) {x y : Int} (h0 : 0 ≤ x) (hxy : x ≤ y) (h : holdB p fe se te dr (se + y) = true) : holdB p fe se te dr (se + x) = true := by
  have h1 := (hold_iff hs).1 h
  have h2 := (sound_iff.1 hs)
  rw [hold_iff hs]
  have e1 : se + y - se = y := by omega
  have e2 : se + x - se = x := by omega
  rw [e1] at h1
  rw [e2]
  have h3 := most_mono (dr := dr) hxy (by omega)
  refine ⟨by omega, by omega, by omega⟩
theorem hold_term {p : ByteArray} {fe se te dr : Int} (hs : soundB p fe se te dr = true) {x : Int} (h0 : te ≤ x) : holdB p fe se te dr (se + x) = false := by
  rw [Bool.eq_false_iff]
  intro h
  have h1 := (hold_iff hs).1 h
  have h2 := (sound_iff.1 hs)
  have e1 : se + x - se = x := by omega
  rw [e1] at h1
  have h3 : 0 ≤ x * dr := Int.mul_nonneg (by omega) (by omega)
  unfold mostZ at h1
  generalize x * dr = a at *
  omega
theorem exists_end {p : ByteArray} {fe se te dr : Int} (hs : soundB p fe se te dr = true) : ∃ e : Int, 0 ≤ e ∧ e ≤ te ∧ IsEnd p fe se te dr e := by
  have h2 := (sound_iff.1 hs)
  have key : ∀ n : Nat, ∃ e : Nat, e ≤ n ∧ (∀ x : Nat, x < e → holdB p fe se te dr (se + x) = true) ∧ (e < n → holdB p fe se te dr (se + e) = false) := by
    intro n
    induction n with
    | zero => exact ⟨0, Nat.le_refl _, fun x hx => absurd hx (Nat.not_lt_zero _), fun h => absurd h (Nat.lt_irrefl _)⟩
    | succ n ih =>
      obtain ⟨e, he, h1, h3⟩ := ih
      by_cases hlt : e < n
      · exact ⟨e, by omega, h1, fun _ => h3 hlt⟩
      · have : e = n := by omega
        subst this
        cases hh : holdB p fe se te dr (se + e)
        · exact ⟨e, by omega, h1, fun _ => hh⟩
        · refine ⟨e + 1, Nat.le_refl _, fun x hx => ?_, fun h => absurd h (Nat.lt_irrefl _)⟩
          by_cases hx2 : x < e
          · exact h1 x hx2
          · have : x = e := by omega
            rw [this]
            exact hh
  obtain ⟨e, he, h1, h3⟩ := key te.toNat
  refine ⟨e, by omega, by omega, fun x hx => ?_⟩
  constructor
  · intro h
    by_cases hlt : x < e
    · exact hlt
    · exfalso
      by_cases hte : e < te.toNat
      · have := hold_down hs (x := (e : Int)) (by omega) (by omega) h
        rw [h3 hte] at this
        cases this
      · rw [hold_term hs (by omega)] at h
        cases h
  · intro h
    have := h1 x.toNat (by omega)
    rwa [show ((x.toNat : Nat) : Int) = x by omega] at this
theorem end_unique {p : ByteArray} {fe se te dr e e' : Int} (h0 : 0 ≤ e) (h0' : 0 ≤ e') (h : IsEnd p fe se te dr e) (h' : IsEnd p fe se te dr e') : e = e' := by
  have h1 := h e h0
  have h2 := h' e h0
  have h3 := h e' h0'
  have h4 := h' e' h0'
  have a1 : ¬ e < e' := fun x => by have := h1.1 (h2.2 x); omega
  have a2 : ¬ e' < e := fun x => by have := h4.1 (h3.2 x); omega
  omega
theorem end_loop {p : ByteArray} {fe se te dr e : Int} (hp : p.size ≤ 1048576) (hs : soundB p fe se te dr = true) (h0 : 0 ≤ e) (he : IsEnd p fe se te dr e) : ∀ (d : Nat) (i j : Int), 0 ≤ i → i ≤ e → e ≤ j → j ≤ 1048576 → (j - i).toNat ≤ d →
    Ev (fun k => offline_end.l0 k p fe se te dr i j) e := by
  have h2 := (sound_iff.1 hs)
  intro d
  induction d with
  | zero =>
    intro i j hi hie hej hj hd
    refine Ev.succ ?_
    simp (disch := omega) only [offline_end.l0, if_neg]
    rw [Ev.some_iff]
    omega
  | succ d ih =>
    intro i j hi hie hej hj hd
    refine Ev.succ ?_
    by_cases hlt : i < j
    · simp (disch := omega) only [offline_end.l0, if_pos hlt, wrap64_id]
      rw [Ev.bind_iff (hold_ev p fe se te dr _ hp)]
      have hm := he ((i + j) / 2) (by omega)
      cases hh : holdB p fe se te dr (se + (i + j) / 2)
      · simp only [Bool.false_eq_true, if_false]
        rw [hh] at hm
        have : ¬ (i + j) / 2 < e := fun x => by cases hm.2 x
        exact ih i ((i + j) / 2) hi hie (by omega) (by omega) (by omega)
      · simp only [if_true]
        have := hm.1 hh
        exact ih ((i + j) / 2 + 1) j (by omega) (by omega) hej hj (by omega)
    · simp only [offline_end.l0, if_neg hlt]
      rw [Ev.some_iff]
      omega
theorem end_ev {p : ByteArray} {fe se te dr e : Int} (hp : p.size ≤ 1048576) (hs : soundB p fe se te dr = true) (h0 : 0 ≤ e) (h1 : e ≤ te) (he : IsEnd p fe se te dr e) : Ev (fun k => offline_end.f k p fe se te dr) (se + e) := by
  have h2 := (sound_iff.1 hs)
  simp only [offline_end.f]
  have hc : 0 ≤ te ∧ te ≤ 1048576 := by omega
  simp only [hc, and_self, if_true]
  rw [Ev.bind_iff (end_loop hp hs h0 he _ 0 te (by omega) h0 h1 (by omega) (Nat.le_refl _)), wrap64_id (by omega) (by omega)]
  exact Ev.now _
theorem refend_loop {p : ByteArray} {fe se te dr e : Int} (hp : p.size ≤ 1048576) (hs : soundB p fe se te dr = true) (h0 : 0 ≤ e) (he : IsEnd p fe se te dr e) : ∀ (d : Nat) (i j : Int), 0 ≤ i → i ≤ e → e ≤ j → j ≤ 1048576 → (j - i).toNat ≤ d →
    Ev (fun k => stockyardref20_End.l0 k (se + i) (se + j) p fe se te dr) (se + e) := by
  have h2 := (sound_iff.1 hs)
  intro d
  induction d with
  | zero =>
    intro i j hi hie hej hj hd
    refine Ev.succ ?_
    simp (disch := omega) only [stockyardref20_End.l0, if_neg]
    rw [Ev.some_iff]
    omega
  | succ d ih =>
    intro i j hi hie hej hj hd
    refine Ev.succ ?_
    by_cases hlt : i < j
    · have ew : wrap64 (se + i + (se + j)) = se + i + (se + j) := wrap64_id (by omega) (by omega)
      have et : Int.tdiv (se + i + (se + j)) 2 = se + (i + j) / 2 := by rw [Int.tdiv_eq_ediv_of_nonneg (by omega)]; omega
      have ew2 : wrap64 (se + (i + j) / 2) = se + (i + j) / 2 := wrap64_id (by omega) (by omega)
      have ew3 : wrap64 (se + (i + j) / 2 + 1) = se + ((i + j) / 2 + 1) := by rw [wrap64_id (by omega) (by omega)]; omega
      have hlt2 : se + i < se + j := by omega
      simp only [stockyardref20_End.l0, if_pos hlt2, ew, et, ew2, ew3]
      rw [Ev.bind_iff (refhold_ev p fe se te dr _ hp)]
      have hm := he ((i + j) / 2) (by omega)
      cases hh : holdB p fe se te dr (se + (i + j) / 2)
      · simp only [Bool.false_eq_true, if_false]
        rw [hh] at hm
        have : ¬ (i + j) / 2 < e := fun x => by cases hm.2 x
        exact ih i ((i + j) / 2) hi hie (by omega) (by omega) (by omega)
      · simp only [if_true]
        have := hm.1 hh
        exact ih ((i + j) / 2 + 1) j (by omega) (by omega) hej hj (by omega)
    · have hlt2 : ¬ se + i < se + j := by omega
      simp only [stockyardref20_End.l0, if_neg hlt2]
      rw [Ev.some_iff]
      omega
theorem refend_ev {p : ByteArray} {fe se te dr e : Int} (hp : p.size ≤ 1048576) (hs : soundB p fe se te dr = true) (h0 : 0 ≤ e) (h1 : e ≤ te) (he : IsEnd p fe se te dr e) : Ev (fun k => stockyardref20_End.f k p fe se te dr) (se + e) := by
  have h2 := (sound_iff.1 hs)
  simp only [stockyardref20_End.f]
  rw [wrap64_id (by omega) (by omega)]
  have := refend_loop hp hs h0 he _ 0 te (by omega) h0 h1 (by omega) (Nat.le_refl _)
  rwa [show se + 0 = se by omega] at this
/-- How long the client may go on, where the claim is holding. -/
theorem left_ev {p : ByteArray} {fe se te dr e : Int} (now : Int) (hp : p.size ≤ 1048576) (hs : soundB p fe se te dr = true) (h0 : 0 ≤ e) (h1 : e ≤ te) (he : IsEnd p fe se te dr e) :
    Ev (fun k => offline_Left.f k p fe se te dr now) (if holdB p fe se te dr now = true then se + e - now else 0) := by
  have h2 := (sound_iff.1 hs)
  simp only [offline_Left.f]
  rw [Ev.bind_iff (hold_ev p fe se te dr now hp)]
  cases hh : holdB p fe se te dr now
  · simp only [Bool.false_eq_true, if_false]
    exact Ev.now _
  · have h3 := (hold_iff hs).1 hh
    simp only [if_true]
    rw [Ev.bind_iff (end_ev hp hs h0 h1 he), wrap64_id (by omega) (by omega)]
    exact Ev.now _
theorem left_none {p : ByteArray} {fe se te dr : Int} (now : Int) (hp : p.size ≤ 1048576) (hs : soundB p fe se te dr = false) : Ev (fun k => offline_Left.f k p fe se te dr now) 0 := by
  simp only [offline_Left.f]
  rw [Ev.bind_iff (hold_ev p fe se te dr now hp)]
  have : holdB p fe se te dr now = false := by unfold holdB; rw [hs]; rfl
  rw [this]
  simp only [Bool.false_eq_true, if_false]
  exact Ev.now _
def zeroC : ByteArray × Int × Int × Int × Int × Int := (S [], 0, 0, 0, 0, 200)
theorem checked_ev (p : ByteArray) (fe se te dr : Int) (hp : p.size ≤ 1048576) : Ev (fun k => offline_checked.f k p fe se te dr) (if soundB p fe se te dr = true then (p, fe, se, te, dr, 0) else zeroC) := by
  simp only [offline_checked.f]
  rw [Ev.bind_iff (sound_ev p fe se te dr hp)]
  cases h : soundB p fe se te dr
  · simp only [Bool.false_eq_true, if_false]
    exact Ev.now _
  · simp only [if_true]
    exact Ev.now _
theorem begin_ev (p : ByteArray) (fe se te dr : Int) (hp : p.size ≤ 1048576) : Ev (fun k => offline_Begin.f k p fe se te dr) (if soundB p fe se te dr = true then (p, fe, se, te, dr, 0) else zeroC) := by
  simp only [offline_Begin.f]
  rw [Ev.bind_iff (checked_ev p fe se te dr hp)]
  exact Ev.now _
theorem awake20 : Ev (fun k => stockyardlaw20_awake.f k) true := by
  simp only [stockyardlaw20_awake.f]
  have hp : (⟨#[47, 47, 97, 47, 120]⟩ : ByteArray).size ≤ 1048576 := by decide
  rw [Ev.bind_iff (begin_ev _ _ _ _ _ hp)]
  have hs : soundB (⟨#[47, 47, 97, 47, 120]⟩ : ByteArray) 1 100 10 500 = true := by decide
  rw [hs]
  simp only [if_true]
  rw [Ev.bind_iff (hold_ev _ _ _ _ _ _ hp)]
  have a1 : holdB (⟨#[47, 47, 97, 47, 120]⟩ : ByteArray) 1 100 10 500 105 = true := by decide
  have a2 : holdB (⟨#[47, 47, 97, 47, 120]⟩ : ByteArray) 1 100 10 500 106 = false := by decide
  have a3 : holdB (⟨#[47, 47, 97, 47, 120]⟩ : ByteArray) 1 100 10 500 100 = true := by decide
  rw [a1]
  simp only [if_true]
  rw [Ev.bind_iff (hold_ev _ _ _ _ _ _ hp), a2]
  simp only [Bool.false_eq_true, if_false]
  obtain ⟨e, h0, h1, he⟩ := exists_end hs
  have b1 := he 5 (by omega)
  have b2 := he 6 (by omega)
  rw [show (100 : Int) + 5 = 105 from rfl, a1] at b1
  rw [show (100 : Int) + 6 = 106 from rfl, a2] at b2
  have c1 := b1.1 rfl
  have c2 : ¬ (6 < e) := fun h => by cases b2.2 h
  have e6 : e = 6 := by omega
  subst e6
  rw [Ev.bind_iff (left_ev 100 hp hs h0 h1 he), a3]
  exact Ev.now _
end Go.Proofs.YtlljblcjjcinnaaDoor.P

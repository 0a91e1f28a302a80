/-
  Layer 3: the reference's captures. No project text.
-/
import Derived.Test.YtcpnmcbgcgkieaaDoorPatB
import Derived.Test.YtcpnmcbgcgkieaaDoorPx1
import Derived.Test.YtcpnmcbgcgkieaaDoorPx6
namespace Go.Proofs.YtcpnmcbgcgkieaaDoor.P
open Go.RowKit Go.Proofs.YtcpnmcbgcgkieaaDoorW.PrintWords Go.Proofs.YtcpnmcbgcgkieaaDoor.Args
set_option linter.unusedVariables false
set_option linter.unusedSimpArgs false

def refCapR (p w : Bs) : Option Bs := match starL p with
  | none => if p = w then some [] else none
  | some s => capR w s
theorem refcapture_ev (p w : Bs) (hp : p.length ≤ 1048576) (hw : w.length ≤ 1048576) (hc : compL w = true) :
    ∃ x, Ev (fun k => stockyardref03_Capture.f k (S p) (S w)) x ∧ x.2 = (refCapR p w).isSome ∧ ∀ y, refCapR p w = some y → x.1 = S y := by
  simp only [stockyardref03_Capture.f]
  unfold refCapR
  have hst := refstar_ev (S p) (by rw [size_S]; exact hp)
  rw [L_S] at hst
  cases hs : starL p with
  | none =>
    rw [hs] at hst
    refine ⟨(S [], p == w), ?_, ?_, ?_⟩
    · rw [Ev.bind_iff hst]
      simp only [strR, Bool.false_eq_true, if_false, toList_eq, L_S]
      exact Ev.now _
    · by_cases h : p = w
      · simp [h]
      · simp [h]
    · intro y hy
      dsimp only at hy
      by_cases h : p = w
      · rw [if_pos h] at hy
        injection hy with hy
        rw [← hy]
      · rw [if_neg h] at hy
        cases hy
  | some s =>
    rw [hs] at hst
    have hsl : s.length ≤ 1048576 := by
      have := star_some hs
      rw [this, List.length_cons] at hp
      omega
    by_cases hsuf : s.isSuffixOf w = true
    · have hle := (List.isSuffixOf_iff_suffix.1 hsuf).length_le
      refine ⟨(S (w.take (w.length - s.length)), decide (0 < w.length - s.length)), ?_, ?_, ?_⟩
      · rw [Ev.bind_iff hst]
        simp only [strR, if_true, strings_HasSuffix.f, hasSuffix_eq (S w) (S s) (by rw [size_S]; omega), L_S, Option.bind_some, hsuf, size_S]
        have ew : wrap64 ((w.length : Int) - (s.length : Int)) = ((w.length - s.length : Nat) : Int) := by rw [wrap64_id (by omega) (by omega)]; omega
        rw [ew]
        have c1 : (0 : Int) ≤ ((w.length - s.length : Nat) : Int) := by omega
        have c2 : ((w.length - s.length : Nat) : Int) ≤ (w.length : Int) := by omega
        simp only [if_pos c1, if_pos c2, Int.toNat_natCast]
        rw [extract_to, L_S, Ev.bind_iff (refcomp_ev _ (by rw [size_S, List.length_take]; omega)), L_S, comp_take hc]
        exact Ev.now _
      · unfold capR
        by_cases h : s.length < w.length
        · have : 0 < w.length - s.length := by omega
          simp only [h, hsuf, and_self, if_true, Option.isSome_some, this, decide_true]
        · have : ¬ 0 < w.length - s.length := by omega
          simp only [h, false_and, if_false, Option.isSome_none, this, decide_false]
      · intro y hy
        dsimp only at hy
        unfold capR at hy
        by_cases h : s.length < w.length ∧ s.isSuffixOf w = true
        · rw [if_pos h] at hy
          injection hy with hy
          rw [← hy]
        · rw [if_neg h] at hy
          cases hy
    · refine ⟨(S [], false), ?_, ?_, ?_⟩
      · rw [Ev.bind_iff hst]
        simp only [strR, if_true, strings_HasSuffix.f, hasSuffix_eq (S w) (S s) (by rw [size_S]; omega), L_S, Option.bind_some, hsuf, Bool.false_eq_true, if_false]
        exact Ev.now _
      · simp [capR, hsuf]
      · intro y hy
        simp [capR, hsuf] at hy
--FI
--FI
end Go.Proofs.YtcpnmcbgcgkieaaDoor.P

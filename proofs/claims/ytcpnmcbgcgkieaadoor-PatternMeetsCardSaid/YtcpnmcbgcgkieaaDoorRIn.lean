/-
  Layer 3: the reference's Inside. No project text.
-/
import Derived.Test.YtcpnmcbgcgkieaaDoorMeet0
import Derived.Test.YtcpnmcbgcgkieaaDoorPatM
import Derived.Test.YtcpnmcbgcgkieaaDoorPx1
import Derived.Test.YtcpnmcbgcgkieaaDoorPx6
namespace Go.Proofs.YtcpnmcbgcgkieaaDoor.P
open Go.RowKit Go.Proofs.YtcpnmcbgcgkieaaDoorW.PrintWords Go.Proofs.YtcpnmcbgcgkieaaDoor.Args
set_option linter.unusedVariables false
set_option linter.unusedSimpArgs false

theorem refinside_ev (x y : Bs) (hx : x.length ≤ 1048576) (hy : y.length ≤ 1048576) (px : partB x = true) (py : partB y = true) : Ev (fun k => stockyardref03_Inside.f k (S x) (S y)) (inB x y) := by
  have h1 := refstar_ev (S x) (by rw [size_S]; exact hx)
  have h2 := refstar_ev (S y) (by rw [size_S]; exact hy)
  rw [L_S] at h1 h2
  simp only [stockyardref03_Inside.f]
  rw [Ev.bind_iff h1, Ev.bind_iff h2]
  unfold inB
  cases sy : starL y with
  | none =>
    simp only [strR, Bool.false_eq_true, if_false]
    rw [Ev.some_iff, toList_eq, toList_eq, L_S, L_S]
    by_cases h : x = y
    · simp [h]
    · simp [h]
  | some t =>
    cases sx : starL x with
    | none =>
      have hc : compL x = true := by
        rcases part_cases px with ⟨_, h⟩ | ⟨s, h, _⟩
        · exact h
        · rw [sx] at h
          cases h
      simp only [strR, if_true, Bool.false_eq_true, if_false]
      obtain ⟨v, hv1, hv2, _⟩ := refcapture_ev y x hy hx hc
      rw [Ev.bind_iff hv1, Ev.some_iff, hv2]
      simp [refCapR, sy]
    | some s =>
      have hls : s.length ≤ 1048576 := by have := star_some sx; rw [this, List.length_cons] at hx; omega
      simp only [strR, if_true, strings_HasSuffix.f, hasSuffix_eq (S s) (S t) (by rw [size_S]; omega), L_S, Option.bind_some]
      exact Ev.now _
end Go.Proofs.YtcpnmcbgcgkieaaDoor.P

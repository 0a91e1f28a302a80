/-
  The pure statement of PatternLaminar. No project text.
-/
import Derived.Test.YtcpnmcbgcgkieaaDoorStPatternLaminar
import Derived.Test.YtcpnmcbgcgkieaaDoorMeet1
import Derived.Test.YtcpnmcbgcgkieaaDoorPx14
import Derived.Test.YtcpnmcbgcgkieaaDoorPx21
import Derived.Test.YtcpnmcbgcgkieaaDoorPx3
import Derived.Test.YtcpnmcbgcgkieaaDoorPx7
namespace Go.Proofs.YtcpnmcbgcgkieaaDoor.P
open Go.RowKit Go.Proofs.YtcpnmcbgcgkieaaDoorW.PrintWords Go.Proofs.YtcpnmcbgcgkieaaDoor.Args
set_option linter.unusedVariables false
set_option linter.unusedSimpArgs false

theorem meet_two {a x y : Bs} (h1 : checkI [a, x] false = 0) (h2 : checkI [a, y] false = 0) :
    meetP [a, x] false [a, y] false = none ∨ meetP [a, x] false [a, y] false = some ([a, x], false) ∨ meetP [a, x] false [a, y] false = some ([a, y], false) := by
  have hn : narR a a = some a := by
    rw [narR_in]
    have : inB a a = true := by
      unfold inB
      cases h : starL a with
      | none => simp
      | some s => simp [suffix_iff.2 ⟨[], rfl⟩]
    rw [if_pos this]
  unfold meetP meet1
  rw [if_pos ⟨h1, h2⟩, if_neg (by simp), if_neg (by simp)]
  simp only [meetL, hn]
  cases hc : narR x y with
  | none => exact .inl rfl
  | some c =>
    rcases narR_or hc with rfl | rfl
    · exact .inr (.inl rfl)
    · exact .inr (.inr rfl)
theorem Pure.PatternLaminar : St.PatternLaminar := by
  intro x y hx hy
  refine Ev.rounds ?_
  have none_ : Ev (fun k => (stockyardlaw03_awake.f k).bind fun t => some t) true := by rw [Ev.bind_some]; exact awake03
  have far : Ev (fun k => stockyardlaw03_PatternLaminar.j0 k x y true) true := by
    refine Ev.succ ?_
    simp only [stockyardlaw03_PatternLaminar.j0, if_true]
    exact none_
  simp only [stockyardlaw03_PatternLaminar.f]
  by_cases l1 : (x.size : Int) > 60
  · simp only [if_pos l1]
    exact far
  · simp only [if_neg l1]
    by_cases l2 : (y.size : Int) > 60
    · simp only [l2, decide_true]
      exact far
    · simp only [l2, decide_false]
      have sx := size_eq x
      have sy := size_eq y
      have ex : [(⟨#[97]⟩ : ByteArray), x] = Ss [[97], L x] := by simp [Ss]; rfl
      have ey : [(⟨#[97]⟩ : ByteArray), y] = Ss [[97], L y] := by simp [Ss]; rfl
      have b1 : ∀ z ∈ ([[97], L x] : List Bs), z.length ≤ 1048576 := by
        intro z hz
        simp only [List.mem_cons, List.not_mem_nil, or_false] at hz
        rcases hz with rfl | rfl
        · simp
        · omega
      have b2 : ∀ z ∈ ([[97], L y] : List Bs), z.length ≤ 1048576 := by
        intro z hz
        simp only [List.mem_cons, List.not_mem_nil, or_false] at hz
        rcases hz with rfl | rfl
        · simp
        · omega
      have n1 : ([[97], L x] : List Bs).length ≤ 1048576 := by simp
      have n2 : ([[97], L y] : List Bs).length ≤ 1048576 := by simp
      have far1 : Ev (fun k => stockyardlaw03_PatternLaminar.j1 k true (Ss [[97], L x]) false (Ss [[97], L y]) false) true := by
        refine Ev.succ ?_
        simp only [stockyardlaw03_PatternLaminar.j1, if_true]
        exact none_
      refine Ev.succ ?_
      simp only [stockyardlaw03_PatternLaminar.j0, Bool.false_eq_true, if_false, Option.bind_some, ex, ey]
      rw [Ev.bind_iff (check_ev _ false n1 b1)]
      by_cases c1 : checkI [[97], L x] false = 0
      · simp only [c1, if_true]
        rw [Ev.bind_iff (check_ev _ false n2 b2)]
        by_cases c2 : checkI [[97], L y] false = 0
        · have e0 : ((0 : Int) != 0) = false := by decide
          simp only [c2, e0]
          refine Ev.succ ?_
          simp only [stockyardlaw03_PatternLaminar.j1, Bool.false_eq_true, if_false]
          have hM := meet_two c1 c2
          have w1 := within_ev _ _ false false n1 n2 b1 b2
          have w2 := within_ev _ _ false false n2 n1 b2 b1
          have i1 : inP [[97], L x] false [[97], L y] false = decide (meetP [[97], L x] false [[97], L y] false = some ([[97], L x], false)) := rfl
          have i2 : inP [[97], L y] false [[97], L x] false = decide (meetP [[97], L x] false [[97], L y] false = some ([[97], L y], false)) := by
            unfold inP
            rw [meetP_comm]
          rw [i1] at w1
          rw [i2] at w2
          rw [Ev.bind_iff (meet_ev _ _ false false n1 n2 b1 b2)]
          have eq1 : ∀ l : List Bs, l.length = 2 → Ev (fun k => stockyardlaw03_equal.f k (Ss l) (Ss l)) true := by
            intro l hl
            have := equal3_ev (Ss l) (Ss l) (by rw [Ss_length]; omega)
            simpa using this
          rcases hM with hM | hM | hM
          · rw [hM] at w1 w2
            simp only [reduceCtorEq, decide_false] at w1 w2
            rw [hM]
            simp only [meetV, Bool.false_eq_true, if_false]
            rw [Ev.bind_iff w1]
            simp only [Bool.false_eq_true, if_false]
            rw [Ev.bind_iff w2]
            simp only [Bool.false_eq_true, if_false]
            exact none_
          · rw [hM] at w1 w2
            simp only [decide_true] at w1
            rw [hM]
            simp only [meetV, if_true]
            rw [Ev.bind_iff w1]
            simp only [if_true]
            rw [Ev.bind_iff (eq1 _ rfl)]
            simp only [if_true]
            exact none_
          · rw [hM] at w1 w2
            simp only [decide_true] at w2
            rw [hM]
            simp only [meetV, if_true]
            rw [Ev.bind_iff w1]
            have tail : Ev (fun k => (pattern_Within.f k (Ss [[97], L y]) false (Ss [[97], L x]) false).bind fun t => if t = true then (stockyardlaw03_equal.f k (Ss [[97], L y]) (Ss [[97], L y])).bind fun t => if t = true then (stockyardlaw03_awake.f k).bind fun t => some t else some false else some false) true := by
              rw [Ev.bind_iff w2]
              simp only [if_true]
              rw [Ev.bind_iff (eq1 _ rfl)]
              simp only [if_true]
              exact none_
            by_cases hxy : (some (([[97], L y], false) : List Bs × Bool)) = some ([[97], L x], false)
            · have e2 : ([[97], L y] : List Bs) = [[97], L x] := by
                injection hxy with h
                injection h
              simp only [hxy, decide_true, if_true]
              rw [e2, Ev.bind_iff (eq1 _ rfl)]
              simp only [if_true]
              exact none_
            · simp only [hxy, decide_false, Bool.false_eq_true, if_false]
              exact tail
        · have e0 : (checkI [[97], L y] false != 0) = true := by rw [bne_iff_ne]; exact c2
          simp only [e0]
          exact far1
      · simp only [c1, if_false]
        exact far1
end Go.Proofs.YtcpnmcbgcgkieaaDoor.P

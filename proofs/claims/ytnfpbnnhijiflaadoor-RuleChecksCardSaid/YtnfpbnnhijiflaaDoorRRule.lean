/-
  Layer 4: what is wrong with a line, by the reference. No project text.
-/
import Derived.Test.YtnfpbnnhijiflaaDoorRule
import Derived.Test.YtnfpbnnhijiflaaDoorRKinds
import Derived.Test.YtnfpbnnhijiflaaDoorPx7
import Derived.Test.YtnfpbnnhijiflaaDoorPx9
namespace Go.Proofs.YtnfpbnnhijiflaaDoor.P
open Go.RowKit Go.Proofs.YtnfpbnnhijiflaaDoorW.PrintWords Go.Proofs.YtnfpbnnhijiflaaDoor.Args
set_option linter.unusedVariables false
set_option linter.unusedSimpArgs false

theorem refrulecheck_ev (x : Bool) (p : List Bs) (a : Bool) (q : List Bs) (b : Bool) (hp : p.length ≤ 20) (hp2 : ∀ x ∈ p, x.length ≤ 1000) (hq : q.length ≤ 20) (hq2 : ∀ x ∈ q, x.length ≤ 1000) :
    Ev (fun k => stockyardref04_Check.f k x (Ss p) a (Ss q) b) (ruleI p a q b) := by
  have hp3 : ∀ x ∈ p, x.length ≤ 1048576 := fun x hx => by have := hp2 x hx; omega
  have hq3 : ∀ x ∈ q, x.length ≤ 1048576 := fun x hx => by have := hq2 x hx; omega
  simp only [stockyardref04_Check.f]
  rw [Ev.bind_iff (refcheck_ev p a (by omega) hp3)]
  unfold ruleI
  by_cases h1 : checkI p a = 0
  · simp only [h1, if_true]
    rw [Ev.bind_iff (refcheck_ev q b (by omega) hq3)]
    by_cases h2 : checkI q b = 0
    · simp only [h2, if_true]
      rw [Ev.bind_iff (refkinds_ev p a (by omega) hp3), Ev.bind_iff (refkinds_ev q b (by omega) hq3)]
      by_cases h3 : starsN p = starsN q
      · have e : ((starsN p : Nat) : Int) = ((starsN q : Nat) : Int) := by omega
        simp only [if_pos e]
        by_cases h4 : a = b
        · have e2 : (a != b) = false := by rw [h4]; simp
          simp only [e2, Bool.false_eq_true, if_false, if_pos (And.intro h3 h4)]
          exact Ev.now _
        · have e2 : (a != b) = true := by rw [bne_iff_ne]; exact h4
          have h5 : ¬ (starsN p = starsN q ∧ a = b) := fun h => h4 h.2
          simp only [e2, if_true, if_neg h5]
          exact Ev.now _
      · have e : ¬ ((starsN p : Nat) : Int) = ((starsN q : Nat) : Int) := by omega
        have h5 : ¬ (starsN p = starsN q ∧ a = b) := fun h => h3 h.1
        simp only [if_neg e, if_neg h5]
        exact Ev.now _
    · simp only [h2, if_false]
      exact Ev.now _
  · simp only [h1, if_false]
    exact Ev.now _
theorem refturn_eq (x : Bool) (p : List Bs) (a : Bool) (q : List Bs) (b : Bool) (hp : p.length ≤ 1000) (hq : q.length ≤ 1000) : stockyardref04_Turn.f x (Ss p) a (Ss q) b = some (x, Ss q, b, Ss p, a) := by
  have c1 : ([] : List ByteArray).length + (Ss p).length < 8796093022208 := by rw [Ss_length]; simp only [List.length_nil]; omega
  have c2 : ([] : List ByteArray).length + (Ss q).length < 8796093022208 := by rw [Ss_length]; simp only [List.length_nil]; omega
  simp only [stockyardref04_Turn.f, stockyardref04_Copy.f, if_pos c1, if_pos c2, Option.bind_some, List.nil_append]
end Go.Proofs.YtnfpbnnhijiflaaDoor.P

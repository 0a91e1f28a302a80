/-
  The pure statement of PatternOutside. No project text.
-/
import Derived.Test.YtcpnmcbgcgkieaaDoorStPatternOutside
import Derived.Test.YtcpnmcbgcgkieaaDoorOut
import Derived.Test.YtcpnmcbgcgkieaaDoorPx23
import Derived.Test.YtcpnmcbgcgkieaaDoorPx3
namespace Go.Proofs.YtcpnmcbgcgkieaaDoor.P
open Go.RowKit Go.Proofs.YtcpnmcbgcgkieaaDoorW.PrintWords Go.Proofs.YtcpnmcbgcgkieaaDoor.Args
set_option linter.unusedVariables false
set_option linter.unusedSimpArgs false

theorem dirR_some (o : Option (List Bs)) : (dirR o).2 = o.isSome := by cases o <;> rfl
theorem Pure.PatternOutside : St.PatternOutside := by
  intro p q hp hq
  refine Ev.rounds ?_
  have none_ : Ev (fun k => (stockyardlaw03_awake.f k).bind fun t => some t) true := by rw [Ev.bind_some]; exact awake03
  obtain ⟨ps, e, h1, h2⟩ := arg_parts hp.1
  obtain ⟨qs, e', h3, h4⟩ := arg_parts hq.1
  simp only [stockyardlaw03_PatternOutside.f, e, e']
  have far : Ev (fun k => stockyardlaw03_PatternOutside.j0 k true (Ss ps) p.f1 (Ss qs) q.f1) true := by
    refine Ev.succ ?_
    simp only [stockyardlaw03_PatternOutside.j0, if_true]
    exact none_
  rw [Ev.bind_iff (small_ev ps _ h1 h2)]
  by_cases hsm : smallB ps = true
  · simp only [hsm, if_true]
    rw [Ev.bind_iff (small_ev qs _ h3 h4)]
    by_cases hsm2 : smallB qs = true
    · simp only [hsm2, if_true]
      have a1 := small_ok hsm
      have a2 := small_ok hsm2
      have b1 : ∀ x ∈ ps, x.length ≤ 1048576 := fun x hx => by have := a1.2 x hx; omega
      have b2 : ∀ x ∈ qs, x.length ≤ 1048576 := fun x hx => by have := a2.2 x hx; omega
      rw [Ev.bind_iff (check_ev ps _ (by omega) b1)]
      by_cases c1 : checkI ps p.f1 = 0
      · simp only [c1, if_true]
        rw [Ev.bind_iff (check_ev qs _ (by omega) b2)]
        by_cases c2 : checkI qs q.f1 = 0
        · have e0 : ((0 : Int) != 0) = false := by decide
          simp only [c2, e0]
          have hw := within_ev ps qs p.f1 q.f1 (by omega) (by omega) b1 b2
          have hwl : ∀ n, n ≤ 13 → (S (textL (witL ps qs (ps.length + n)))).size ≤ 1000000 := by
            intro n hn
            have hjs := joinL_bound 1000 (witL ps qs (ps.length + n)) (by
              intro x hx2
              obtain ⟨j, hj, rfl⟩ := List.mem_iff_getElem.1 hx2
              rw [witL_get]
              exact witAt_len (fun x hx3 => by have := a1.2 x hx3; omega) (by omega))
            rw [witL_len] at hjs
            have hjs2 : (ps.length + n) * (1000 + 1) ≤ 40 * 1001 := Nat.mul_le_mul (by omega) (by omega)
            rw [size_S]
            simp only [textL, List.length_cons]
            omega
          have loop : ∀ (d n : Nat) (last : Nat) (acc : Bool), n + d = last + 1 → last ≤ 13 → (∀ m, n ≤ m → m ≤ last → decide (0 < m) = p.f1) →
              (inP ps p.f1 qs q.f1 = true ↔ acc = true ∧ ∀ m, n ≤ m → m ≤ last → hitW qs q.f1 (witL ps qs (ps.length + m))) →
              Ev (fun k => stockyardlaw03_PatternOutside.l0 k (last : Int) acc (n : Int) (Ss ps) p.f1 (Ss qs) q.f1) true := by
            intro d
            induction d with
            | zero =>
              intro n last acc hn hl hb hi
              refine Ev.succ ?_
              have c3 : ¬ ((n : Int) ≤ (last : Int)) := by omega
              simp only [stockyardlaw03_PatternOutside.l0, if_neg c3]
              rw [Ev.bind_iff hw]
              have e3 : inP ps p.f1 qs q.f1 = acc := by
                rw [Bool.eq_iff_iff, hi]
                exact ⟨fun h => h.1, fun h => ⟨h, fun m h1 h2 => by omega⟩⟩
              simp only [e3, beq_self_eq_true, if_true]
              exact none_
            | succ d ih =>
              intro n last acc hn hl hb hi
              refine Ev.succ ?_
              have c3 : (n : Int) ≤ (last : Int) := by omega
              have ew : wrap64 ((n : Int) + 1) = ((n + 1 : Nat) : Int) := by rw [wrap64_id (by omega) (by omega)]; omega
              simp only [stockyardlaw03_PatternOutside.l0, if_pos c3, ew]
              have hpath := wit_path (qs := qs) c1 n (hb n (Nat.le_refl _) (by omega))
              rw [Ev.bind_iff (wit_ev ps qs p.f1 q.f1 n (by omega) a1.1 a2.1 a1.2), Ev.bind_iff (match_ev ps _ _ (by omega) b1 (hwl n (by omega)))]
              have m1 : (matchP ps p.f1 (textL (witL ps qs (ps.length + n)))).isSome = true := matchP_some.2 ⟨_, hpath.1, c1, hpath.2⟩
              simp only [dirR_some, L_S, m1, if_true]
              rw [Ev.bind_iff (match_ev qs _ _ (by omega) b2 (hwl n (by omega)))]
              simp only [dirR_some, L_S]
              have m2 : (matchP qs q.f1 (textL (witL ps qs (ps.length + n)))).isSome = true ↔ hitW qs q.f1 (witL ps qs (ps.length + n)) := by
                rw [matchP_some]
                constructor
                · rintro ⟨ws, h1, _, h2⟩
                  rw [hpath.1] at h1
                  injection h1 with h1
                  rw [h1]
                  exact h2
                · exact fun h => ⟨_, hpath.1, c2, h⟩
              have split : (∀ m, n ≤ m → m ≤ last → hitW qs q.f1 (witL ps qs (ps.length + m))) ↔ hitW qs q.f1 (witL ps qs (ps.length + n)) ∧ ∀ m, n + 1 ≤ m → m ≤ last → hitW qs q.f1 (witL ps qs (ps.length + m)) := by
                constructor
                · exact fun h => ⟨h n (Nat.le_refl _) (by omega), fun m h1 h2 => h m (by omega) h2⟩
                · rintro ⟨h1, h2⟩ m h3 h4
                  by_cases hm : m = n
                  · subst hm
                    exact h1
                  · exact h2 m (by omega) h4
              cases acc with
              | true =>
                simp only [if_true]
                refine ih (n + 1) last _ (by omega) hl (fun m h1 h2 => hb m (by omega) h2) ?_
                rw [hi, split, m2]
                simp only [true_and]
              | false =>
                simp only [Bool.false_eq_true, if_false]
                refine ih (n + 1) last _ (by omega) hl (fun m h1 h2 => hb m (by omega) h2) ?_
                rw [hi]
                simp only [Bool.false_eq_true, false_and]
          have goal : ∀ first last : Nat, first = (if p.f1 = true then 1 else 0) → last = (if p.f1 = true then 13 else 0) → Ev (fun k => stockyardlaw03_PatternOutside.j1 k (first : Int) (last : Int) (Ss ps) p.f1 (Ss qs) q.f1) true := by
            intro first last hf hl
            refine Ev.succ ?_
            simp only [stockyardlaw03_PatternOutside.j1]
            refine loop (last + 1 - first) first last true (by split at hf <;> split at hl <;> omega) (by split at hl <;> omega) ?_ ?_
            · intro m hm1 hm2
              cases hb : p.f1 with
              | true =>
                rw [hb] at hf
                rw [decide_eq_true_eq]
                simp only [if_true] at hf
                omega
              | false =>
                rw [hb] at hl
                rw [decide_eq_false_iff_not]
                simp only [Bool.false_eq_true, if_false] at hl
                omega
            · simp only [true_and]
              constructor
              · intro hi m hm1 hm2
                have hb : decide (0 < m) = p.f1 := by
                  cases hb : p.f1 with
                  | true =>
                    rw [hb] at hf
                    rw [decide_eq_true_eq]
                    simp only [if_true] at hf
                    omega
                  | false =>
                    rw [hb] at hl
                    rw [decide_eq_false_iff_not]
                    simp only [Bool.false_eq_true, if_false] at hl
                    omega
                have hpath := wit_path (qs := qs) c1 m hb
                have m1 : (matchP ps p.f1 (textL (witL ps qs (ps.length + m)))).isSome = true := matchP_some.2 ⟨_, hpath.1, c1, hpath.2⟩
                obtain ⟨ws, g1, _, g2⟩ := matchP_some.1 (inP_match hi _ m1)
                rw [hpath.1] at g1
                injection g1 with g1
                rw [g1]
                exact g2
              · intro h
                refine wit_in c1 c2 ?_
                intro n hn1 hn2
                exact h n (by rw [hf]; exact hn1) (by rw [hl]; exact hn2)
          refine Ev.succ ?_
          simp only [stockyardlaw03_PatternOutside.j0, Bool.false_eq_true, if_false]
          cases hb : p.f1 with
          | true =>
            have := goal 1 13 (by rw [hb]; rfl) (by rw [hb]; rfl)
            rw [hb] at this
            simp only [if_true]
            exact this
          | false =>
            have := goal 0 0 (by rw [hb]; rfl) (by rw [hb]; rfl)
            rw [hb] at this
            simp only [Bool.false_eq_true, if_false]
            exact this
        · have e0 : (checkI qs q.f1 != 0) = true := by rw [bne_iff_ne]; exact c2
          simp only [e0]
          exact far
      · simp only [c1, if_false]
        exact far
    · simp only [hsm2, if_false, Bool.false_eq_true]
      exact far
  · simp only [hsm, if_false, Bool.false_eq_true]
    exact far
end Go.Proofs.YtcpnmcbgcgkieaaDoor.P

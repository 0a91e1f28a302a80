/-
  The pure statement of PatternCaptures. No project text.
-/
import Derived.Test.YtkakemojljeffaaDoorStPatternCaptures
import Derived.Test.YtkakemojljeffaaDoorFill
import Derived.Test.YtkakemojljeffaaDoorPx19
import Derived.Test.YtkakemojljeffaaDoorPx3
namespace Go.Proofs.YtkakemojljeffaaDoor.P
open Go.RowKit Go.Proofs.YtkakemojljeffaaDoorW.PrintWords Go.Proofs.YtkakemojljeffaaDoor.Args
set_option linter.unusedVariables false
set_option linter.unusedSimpArgs false

theorem match_sizes {ps : List Bs} {rest : Bool} {l : Bs} {o : List Bs} (h : matchP ps rest l = some o) : ∀ x ∈ o, x.length ≤ l.length := by
  unfold matchP at h
  obtain ⟨ws, h1, h2⟩ := Option.bind_eq_some_iff.1 h
  unfold matchW at h2
  by_cases hc : checkI ps rest = 0 ∧ ps.length ≤ ws.length ∧ decide (ps.length < ws.length) = rest
  · rw [if_pos hc] at h2
    obtain ⟨caps, h3, rfl⟩ := Option.map_eq_some_iff.1 h2
    obtain ⟨t1, t2, t3⟩ := path_text h1
    have hj : l.length = (joinL ws).length + 2 := by rw [t1]; simp [textL]
    have key : ∀ (ps ws : List Bs) {caps : List Bs}, matchL ps ws = some caps → ∀ x ∈ caps, ∃ w ∈ ws, x.length ≤ w.length := by
      intro ps
      induction ps with
      | nil =>
        intro ws caps h x hx
        simp only [matchL, Option.some.injEq] at h
        subst h
        simp at hx
      | cons p ps ih =>
        intro ws caps h x hx
        cases ws with
        | nil => cases h
        | cons w ws =>
          simp only [matchL] at h
          cases hs : starL p with
          | none =>
            rw [hs] at h
            dsimp only at h
            by_cases hq : w = p
            · rw [if_pos hq] at h
              obtain ⟨w', h1, h2⟩ := ih ws h x hx
              exact ⟨w', List.mem_cons_of_mem _ h1, h2⟩
            · rw [if_neg hq] at h
              cases h
          | some s =>
            rw [hs] at h
            dsimp only at h
            cases hc : capR w s with
            | none => rw [hc] at h; cases h
            | some y =>
              rw [hc] at h
              dsimp only at h
              obtain ⟨caps', h1, rfl⟩ := Option.map_eq_some_iff.1 h
              rcases List.mem_cons.1 hx with rfl | hx
              · refine ⟨w, by simp, ?_⟩
                rw [(capR_some hc).1, List.length_append]
                omega
              · obtain ⟨w', h3, h4⟩ := ih ws h1 x hx
                exact ⟨w', List.mem_cons_of_mem _ h3, h4⟩
    intro x hx
    rcases List.mem_append.1 hx with hx | hx
    · obtain ⟨w, hw, hle⟩ := key ps ws h3 x hx
      have hd := (pathL_length h1).2.2
      unfold dirL at hd
      split at hd
      · injection hd with hd
        have := splitL_length_le (l.drop 2) w (by rw [hd]; exact hw)
        rw [List.length_drop] at this
        omega
      · cases hd
    · unfold restL at hx
      split at hx
      · rw [List.mem_singleton.1 hx]
        have hle : ∀ (n : Nat) (ws : List Bs), (joinL (ws.drop n)).length ≤ (joinL ws).length := by
          intro n
          induction n with
          | zero => intro ws; simp
          | succ n ih =>
            intro ws
            cases ws with
            | nil => simp
            | cons a r =>
              rw [List.drop_succ_cons]
              refine Nat.le_trans (ih r) ?_
              cases r with
              | nil => simp [joinL]
              | cons b r =>
                rw [join_cons a (by simp), List.length_append, List.length_cons]
                omega
        have := hle ps.length ws
        omega
      · simp at hx
  · rw [if_neg hc] at h2
    cases h2
theorem Pure.PatternCaptures : St.PatternCaptures := by
  intro p s cs' hp hs hcs
  refine Ev.rounds ?_
  have none_ : Ev (fun k => (stockyardlaw03_awake.f k).bind fun t => some t) true := by rw [Ev.bind_some]; exact awake03
  obtain ⟨ps, e, h1, h2⟩ := arg_parts hp.1
  obtain ⟨cs, e', g1, g2⟩ := arg_parts hcs
  simp only [stockyardlaw03_PatternCaptures.f, e, e']
  rw [Ev.bind_iff (small_ev ps _ h1 h2)]
  have far : ∀ (x y : List ByteArray) (b : Bool), Ev (fun k => stockyardlaw03_PatternCaptures.j0 k s x true y b) true := by
    intro x y b
    refine Ev.succ ?_
    simp only [stockyardlaw03_PatternCaptures.j0, if_true]
    exact none_
  by_cases hsm : smallB ps = true
  · simp only [hsm, if_true, Ss_length]
    by_cases hls : (s.size : Int) > 400
    · simp only [if_pos hls]
      exact far _ _ _
    simp only [if_neg hls]
    by_cases hl : (cs.length : Int) > 20
    · simp only [hl, decide_true]
      exact far _ _ _
    · simp only [hl, decide_false]
      have h3 := small_ok hsm
      have hsz := size_eq s
      generalize p.f1 = b
      have hx3 : ∀ x ∈ ps, x.length ≤ 1000 := fun x hx => by have := h3.2 x hx; omega
      have hx6 : ∀ x ∈ ps, x.length ≤ 1048576 := fun x hx => by have := h3.2 x hx; omega
      refine Ev.succ ?_
      simp only [stockyardlaw03_PatternCaptures.j0, Bool.false_eq_true, if_false, Ss_length]
      have two : (∀ x ∈ cs, x.length ≤ 100) → Ev (fun k => stockyardlaw03_PatternCaptures.j2 k (Ss cs) (Ss ps) b) true := by
        intro hall
        refine Ev.succ ?_
        simp only [stockyardlaw03_PatternCaptures.j2]
        rw [Ev.bind_iff (fill_ev ps b cs (by omega) hx3 (fun x hx => by have := hall x hx; omega))]
        by_cases hf : (fillR ps b cs).2 = 0
        · simp only [if_pos hf]
          have hm := match_of_fill (s := (fillR ps b cs).1) (ps := ps) (rest := b) (cs := cs) (by rw [← hf])
          have hsize : (fillR ps b cs).1.size ≤ 1000000 := fill_size (by omega) h3.2 (fun x hx => hall x hx)
          rw [Ev.bind_iff (match_ev ps b _ (by omega) hx6 hsize), hm]
          simp only [dirR, if_true]
          rw [Ev.bind_iff (equal3_ev _ _ (by rw [Ss_length]; omega))]
          simp only [decide_true, if_true]
          exact none_
        · simp only [if_neg hf]
          exact none_
      have loop : ∀ (d i : Nat), i + d = cs.length → (∀ x ∈ cs.take i, x.length ≤ 100) → Ev (fun k => stockyardlaw03_PatternCaptures.l0 k s (Ss cs) (Ss cs) (cs.length : Int) (i : Int) (Ss ps) b) true := by
        intro d
        induction d with
        | zero =>
          intro i hi hall
          rw [List.take_of_length_le (by omega)] at hall
          refine Ev.succ ?_
          simp (disch := omega) only [stockyardlaw03_PatternCaptures.l0, if_neg]
          rw [Ev.bind_iff (match_ev ps b s (by omega) hx6 (by omega))]
          cases hm : matchP ps b (L s) with
          | none =>
            simp only [dirR, Bool.false_eq_true, if_false]
            exact two hall
          | some o =>
            simp only [dirR, if_true]
            rw [Ev.bind_iff (fill_ev ps b o (by omega) hx3 (fun x hx => by have := match_sizes hm x hx; omega)), fill_of_match hm]
            simp only [S_L, if_true]
            exact two hall
        | succ d ih =>
          intro i hi hall
          have hlt : i < cs.length := by omega
          refine Ev.succ ?_
          simp only [stockyardlaw03_PatternCaptures.l0, Ss_length]
          have c1 : (i : Int) < (cs.length : Int) := by omega
          have c2 : (0 : Int) ≤ (i : Int) := by omega
          have e : wrap64 ((i : Int) + 1) = ((i + 1 : Nat) : Int) := by rw [wrap64_id (by omega) (by omega)]; omega
          simp only [if_pos c1, if_pos c2, e]
          rw [rd_Ss cs i hlt, size_S]
          by_cases hb : (cs[i].length : Int) > 100
          · simp only [if_pos hb]
            exact none_
          · simp only [if_neg hb]
            refine ih (i + 1) (by omega) ?_
            intro x hx
            rw [List.take_succ_eq_append_getElem hlt] at hx
            rcases List.mem_append.1 hx with h | h
            · exact hall x h
            · rw [List.mem_singleton.1 h]
              omega
      exact loop cs.length 0 (by omega) (by simp)
  · simp only [hsm, if_false, Bool.false_eq_true]
    exact far _ _ _
end Go.Proofs.YtkakemojljeffaaDoor.P

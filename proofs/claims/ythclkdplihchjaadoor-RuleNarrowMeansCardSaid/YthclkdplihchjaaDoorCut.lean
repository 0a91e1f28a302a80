/-
  append(out[:n:n], xs...), out made with room: a cut whose room ends with it is written on in a new block; an append with room knows its room. No project text.
-/
import Derived.Test.YthclkdplihchjaaDoorMakeC
import Derived.ArgAppend
namespace Go.Proofs.YthclkdplihchjaaDoor.P
open Go.RowKit Go.Proofs.YthclkdplihchjaaDoorW.PrintWords
set_option linter.unusedVariables false
variable {P : Program} {ops : Array Oper} {rest : List Oper} {o : Oper} {a : Act} {Q : Exit → Act → World → Prop} {α : Type}
/-- The room of a slice. -/
def Room (v : Value) (c : Nat) : Prop := ∃ A n, v = .slice A n c
/-- append(v, p), with the room told: it stays where there is room. -/
theorem R_append_room (d : Kd α) {w0 W : World} (base : Nat) (hgd : o.guard = none) (s x : Operand) (t e : TypeId) (z : Value) (bytes : Nat)
    (ho : o.op = .call { callee := .builtin .append, args := #[s, x], argTypes := #[t, t] })
    (ht : P.underlying t = some (.slice e)) (hinfo : (P.info? e).map (fun i => (i.zero, i.size, i.bytes)) = some (some z, d.sz, bytes)) (hz : z.cells.size = d.sz) (hs0 : 0 < d.sz) (hb0 : 0 < bytes)
    (v : Value) (xs : List α) (p : α) (cs : List Value) (ok okp : Nat → Prop) (hs : a.eval s = v) (hx : a.eval x = .slice (some ⟨W.heap.size, 0, none⟩) 1 1) (hp : d.M W base okp p cs) (hokp : ∀ k, okp k → ok k ∧ some k ≠ v.ownBlock) (hfresh : ∀ k, W.heap.size ≤ k → ok k)
    (HO : d.R e W base ok v xs) (HB : Below base w0 W) (hbase : base ≤ W.heap.size) (hl : (xs.length + 1) * bytes ≤ 140737488355328) (c : Nat) (hroom : Room v c)
    (h : ∀ v1 w1, d.R e w1 base ok v1 (xs ++ [p]) → Below base w0 w1 → W.grownBy w1 v.ownBlock → (v1.ownBlock = v.ownBlock ∨ ∃ b, v1.ownBlock = some b ∧ W.heap.size ≤ b) → (xs.length < c → Room v1 c) → wpList P ops Q rest (a.put o.dst v1) w1) :
    wpList P ops Q (o :: rest) a (W.alloc (.cells cs.toArray e)) := by
  obtain ⟨h0, inner, hown, hr⟩ := HO
  obtain ⟨i0, hi, hzz⟩ := Option.map_eq_some_iff.1 hinfo
  simp only [Prod.mk.injEq] at hzz
  obtain ⟨hz0, hz1, hz2⟩ := hzz
  have hlen : xs.length + 1 ≤ 140737488355328 := Nat.le_trans (Nat.le_mul_of_pos_right _ hb0) hl
  have hcs : cs.length = d.sz := d.K_len (d.K_of_M hp)
  have hone := d.K_one (d.K_of_M hp)
  have hnews : ∀ j u, cs[j]? = some u → (W.alloc (.cells cs.toArray e)).cell? ((⟨W.heap.size, 0, none⟩ : Addr).add j) = some u := by
    simpa using World.news_of_block (cs := cs.toArray) (t := e) (fr := (0, 0)) (heap_alloc_new W (.cells cs.toArray e))
  obtain ⟨v1, w1, hrun, hown1, hg, _, hat⟩ := run_append_own_at (P := P) (W.alloc (.cells cs.toArray e)) base t o.type e i0 z d.sz bytes ht hi hz0 hz1 hz2 hz hs0 v xs.length inner (hown.alloc _) ⟨W.heap.size, 0, none⟩ 1 1 cs (by rw [hcs]; simp) hnews hone (by simp only [maxLen]; omega) hl (by simp; omega)
  have hrm : xs.length < c → Room v1 c := by
    intro hlt
    obtain ⟨A, n, rfl⟩ := hroom
    rcases hown.2 with ⟨hv, _⟩ | ⟨g, cap, cur, hv, hbg, hh, hnc, hm, hsz, htk⟩
    · injection hv with _ _ hc
      omega
    · injection hv with e1 e2 e3
      subst e1
      subst e2
      subst e3
      have hh' : (W.alloc (.cells cs.toArray e)).heap[g]? = some (.cells cur e (0, 0)) := (heap_alloc_old W _ (blk_lt hh)).trans hh
      have hr2 := run_append_room (P := P) (W.alloc (.cells cs.toArray e)) t o.type e i0 ht hi g xs.length c cur hh' ⟨W.heap.size, 0, none⟩ 1 1 cs (by rw [hcs, hz1]; simp) hnews hone (by omega) (by
        rw [hz1, hcs, hsz]
        have := Nat.mul_le_mul_right d.sz (show xs.length + 1 ≤ c by omega)
        rw [Nat.add_mul, Nat.one_mul] at this
        exact this)
      rw [hr2] at hrun
      injection hrun with hv1 _
      exact ⟨_, _, hv1.symm⟩
  have hat' : v1.ownBlock = v.ownBlock ∨ ∃ b, v1.ownBlock = some b ∧ W.heap.size ≤ b := by
    rcases hat with hat | hat
    · exact .inl hat
    · exact .inr ⟨_, hat, by simp⟩
  have hg' : W.grownBy w1 v.ownBlock := World.grownBy.trans (World.grownBy_alloc W _ _) hg
  refine wpList_plain hgd fun K hK => ?_
  unfold Oper.wp execOp
  simp only [ho, resolve, invoke, builtin, Sem.run_bind, Sem.run_pure, Result.andThen_ok, List.map_toArray, List.map_cons, List.map_nil, hs, hx, hrun]
  exact hK _ _ (h v1 w1 (Kd.R_appended h0 hr hp hokp hfresh hown1 hg' hat') ((HB.alloc hbase _).grown hg (by simp; omega) (own_base hown)) hg' hat' hrm)
/-- append(v[:n:n], ys...), v of n elements: what stands behind the room is written to a new block; where nothing is appended, v was full. -/
theorem R_append_cut (d : Kd α) {Rr : α → List Value → Prop} {w0 W : World} (base : Nat) (hgd : o.guard = none) (s x : Operand) (t e : TypeId) (z : Value) (bytes : Nat)
    (ho : o.op = .call { callee := .builtin .append, args := #[s, x], argTypes := #[t, t] })
    (ht : P.underlying t = some (.slice e)) (hinfo : (P.info? e).map (fun i => (i.zero, i.size, i.bytes)) = some (some z, d.sz, bytes)) (hz : z.cells.size = d.sz) (hs0 : 0 < d.sz) (hb0 : 0 < bytes)
    (B : Option Addr) (r : Nat) (xs ys : List α) (A : Option Addr) (m c : Nat) (ok okp : Nat → Prop) (hs : a.eval s = .slice B xs.length xs.length) (hx : a.eval x = .slice A m c)
    (HO : d.R e W base ok (.slice B xs.length r) xs) (hfull : m = 0 → r = xs.length) (HR : ReadsRow Rr d.sz W A m ys) (hKM : ∀ x cs, Rr x cs → d.M W base okp x cs) (hokp : ∀ k, okp k → ok k ∧ some k ≠ (Value.slice B xs.length r).ownBlock) (hfresh : ∀ k, W.heap.size ≤ k → ok k)
    (HB : Below base w0 W) (hbase : base ≤ W.heap.size) (hl : (xs.length + m) * bytes ≤ 140737488355328)
    (h : ∀ v1 w1, d.R e w1 base ok v1 (xs ++ ys) → Below base w0 w1 → W.grownBy w1 (Value.slice B xs.length r).ownBlock → (v1.ownBlock = (Value.slice B xs.length r).ownBlock ∨ ∃ b, v1.ownBlock = some b ∧ W.heap.size ≤ b) → wpList P ops Q rest (a.put o.dst v1) w1) :
    wpList P ops Q (o :: rest) a W := by
  rcases Nat.eq_zero_or_pos m with hm0 | hm0
  · rw [hfull hm0] at HO hokp h
    exact Kd.R_append_rows d base hgd s x t e z bytes ho ht hinfo hz hs0 hb0 _ xs ys A m c ok okp hs hx HO HR hKM hokp hfresh HB hbase hl h
  obtain ⟨hok, inner, hown, hr⟩ := HO
  rcases hown.2 with ⟨hv, hn⟩ | ⟨g, cap, cur, hv, hbg, hh, hnc, hmx, hsz, htk⟩
  · injection hv with e1 e2 e3
    subst e1
    subst e3
    rw [hn] at hs
    have hx0 : xs = [] := List.eq_nil_of_length_eq_zero hn
    subst hx0
    exact Kd.R_append_rows d base hgd s x t e z bytes ho ht hinfo hz hs0 hb0 _ [] ys A m c ok okp hs hx ⟨hok, inner, hown, hr⟩ HR hKM hokp hfresh HB hbase hl h
  · injection hv with e1 e2 e3
    subst e1
    subst e3
    obtain ⟨ad, rfl, _⟩ := HR.2.2 hm0
    obtain ⟨i0, hi, hzz⟩ := Option.map_eq_some_iff.1 hinfo
    simp only [Prod.mk.injEq] at hzz
    obtain ⟨hz0, hz1, hz2⟩ := hzz
    have hm : ys.length = m := HR.1
    have hlen : xs.length + m ≤ 140737488355328 := Nat.le_trans (Nat.le_mul_of_pos_right _ hb0) hl
    obtain ⟨news, hnr, hnc2⟩ := ReadsRow.inner_ HR
    have hnM : Reps (d.M W base okp) d.sz ys news := hnr.imp_ (fun p c hp => hKM p c hp)
    obtain ⟨v1, w1, hrun, h2, hg⟩ := run_append_arg_grows (P := P) W t o.type e i0 z d.sz bytes ht hi hz0 hz1 hz2 hz hs0 ⟨g, 0, none⟩ xs.length xs.length inner (by rw [hown.1]) (hown.cells rfl) ad m c news (by rw [hnM.1, hm]) hnc2 (by omega) (by simp only [maxLen]; omega) hl
    have hge : ∀ k, v1.ownBlock = some k → W.heap.size ≤ k := fun k hk => own_base h2 k hk
    have hnew : ∃ b, v1.ownBlock = some b ∧ W.heap.size ≤ b := by
      rcases h2.2 with ⟨_, h0⟩ | ⟨g', _, _, rfl, hb', _⟩
      · omega
      · exact ⟨g', rfl, hb'⟩
    have step : ∀ {q : α} {c : List Value} {o : Nat → Prop}, d.M W base o q c → (∀ k, o k → ok k) → d.M w1 base (fun k => ok k ∧ some k ≠ v1.ownBlock) q c := by
      intro q c o hq ho
      have h1 := d.M_move (w1 := w1) (fun k hk => hg.block k hk.2.2.1 (by simp)) (d.M_bound hq)
      exact d.M_mono (fun k hk => ⟨ho k hk.1, fun e => by have := hge k e.symm; have := hk.2.2.1; omega⟩) h1
    have hg' : W.grownBy w1 (Value.slice (some ⟨g, 0, none⟩) xs.length r).ownBlock := ⟨hg.os, hg.tape, hg.output, hg.size, fun i hi _ => hg.block i hi (by simp)⟩
    refine Kd.event_run hgd (show (execOp a.eval o).run P W = .ok (.value v1) w1 by simp [execOp, ho, resolve, invoke, builtin, hs, hx, hrun]) (h v1 w1 ⟨fun k hk => hfresh k (hge k hk), inner ++ news, ?_, Kd.reps_append (hr.imp_ (fun _ _ hq => step hq (fun _ hk => hk.1))) (hnM.imp_ (fun _ _ hq => step hq (fun k hk => (hokp k hk).1)))⟩ (HB.grown hg' hbase (own_base hown)) hg' (.inr hnew))
    rw [List.length_append, hm]
    exact own_weaken h2 hbase
theorem R_append_cut_step {Kc : Act → World → Prop} (d : Kd α) {Rr : α → List Value → Prop} {w0 W : World} (base : Nat) (hw : Region.wanted o (yielded ops a.tmps) = true) (s x : Operand) (t e : TypeId) (z : Value) (bytes : Nat)
    (ho : o.op = .call { callee := .builtin .append, args := #[s, x], argTypes := #[t, t] })
    (ht : P.underlying t = some (.slice e)) (hinfo : (P.info? e).map (fun i => (i.zero, i.size, i.bytes)) = some (some z, d.sz, bytes)) (hz : z.cells.size = d.sz) (hs0 : 0 < d.sz) (hb0 : 0 < bytes)
    (B : Option Addr) (r : Nat) (xs ys : List α) (A : Option Addr) (m c : Nat) (ok okp : Nat → Prop) (hs : a.eval s = .slice B xs.length xs.length) (hx : a.eval x = .slice A m c)
    (HO : d.R e W base ok (.slice B xs.length r) xs) (hfull : m = 0 → r = xs.length) (HR : ReadsRow Rr d.sz W A m ys) (hKM : ∀ x cs, Rr x cs → d.M W base okp x cs) (hokp : ∀ k, okp k → ok k ∧ some k ≠ (Value.slice B xs.length r).ownBlock) (hfresh : ∀ k, W.heap.size ≤ k → ok k)
    (HB : Below base w0 W) (hbase : base ≤ W.heap.size) (hl : (xs.length + m) * bytes ≤ 140737488355328)
    (h : ∀ v1 w1, d.R e w1 base ok v1 (xs ++ ys) → Below base w0 w1 → W.grownBy w1 (Value.slice B xs.length r).ownBlock → (v1.ownBlock = (Value.slice B xs.length r).ownBlock ∨ ∃ b, v1.ownBlock = some b ∧ W.heap.size ≤ b) → Kc (a.put o.dst v1) w1) :
    if Region.wanted o (yielded ops a.tmps) = true then Oper.wp P o a W Kc Q else Kc (a.put o.dst undef) W := by
  rcases Nat.eq_zero_or_pos m with hm0 | hm0
  · rw [hfull hm0] at HO hokp h
    exact Kd.R_append_rows_step d base hw s x t e z bytes ho ht hinfo hz hs0 hb0 _ xs ys A m c ok okp hs hx HO HR hKM hokp hfresh HB hbase hl h
  obtain ⟨hok, inner, hown, hr⟩ := HO
  rcases hown.2 with ⟨hv, hn⟩ | ⟨g, cap, cur, hv, hbg, hh, hnc, hmx, hsz, htk⟩
  · injection hv with e1 e2 e3
    subst e1
    subst e3
    rw [hn] at hs
    have hx0 : xs = [] := List.eq_nil_of_length_eq_zero hn
    subst hx0
    exact Kd.R_append_rows_step d base hw s x t e z bytes ho ht hinfo hz hs0 hb0 _ [] ys A m c ok okp hs hx ⟨hok, inner, hown, hr⟩ HR hKM hokp hfresh HB hbase hl h
  · injection hv with e1 e2 e3
    subst e1
    subst e3
    obtain ⟨ad, rfl, _⟩ := HR.2.2 hm0
    obtain ⟨i0, hi, hzz⟩ := Option.map_eq_some_iff.1 hinfo
    simp only [Prod.mk.injEq] at hzz
    obtain ⟨hz0, hz1, hz2⟩ := hzz
    have hm : ys.length = m := HR.1
    have hlen : xs.length + m ≤ 140737488355328 := Nat.le_trans (Nat.le_mul_of_pos_right _ hb0) hl
    obtain ⟨news, hnr, hnc2⟩ := ReadsRow.inner_ HR
    have hnM : Reps (d.M W base okp) d.sz ys news := hnr.imp_ (fun p c hp => hKM p c hp)
    obtain ⟨v1, w1, hrun, h2, hg⟩ := run_append_arg_grows (P := P) W t o.type e i0 z d.sz bytes ht hi hz0 hz1 hz2 hz hs0 ⟨g, 0, none⟩ xs.length xs.length inner (by rw [hown.1]) (hown.cells rfl) ad m c news (by rw [hnM.1, hm]) hnc2 (by omega) (by simp only [maxLen]; omega) hl
    have hge : ∀ k, v1.ownBlock = some k → W.heap.size ≤ k := fun k hk => own_base h2 k hk
    have hnew : ∃ b, v1.ownBlock = some b ∧ W.heap.size ≤ b := by
      rcases h2.2 with ⟨_, h0⟩ | ⟨g', _, _, rfl, hb', _⟩
      · omega
      · exact ⟨g', rfl, hb'⟩
    have step : ∀ {q : α} {c : List Value} {o : Nat → Prop}, d.M W base o q c → (∀ k, o k → ok k) → d.M w1 base (fun k => ok k ∧ some k ≠ v1.ownBlock) q c := by
      intro q c o hq ho
      have h1 := d.M_move (w1 := w1) (fun k hk => hg.block k hk.2.2.1 (by simp)) (d.M_bound hq)
      exact d.M_mono (fun k hk => ⟨ho k hk.1, fun e => by have := hge k e.symm; have := hk.2.2.1; omega⟩) h1
    have hg' : W.grownBy w1 (Value.slice (some ⟨g, 0, none⟩) xs.length r).ownBlock := ⟨hg.os, hg.tape, hg.output, hg.size, fun i hi _ => hg.block i hi (by simp)⟩
    have hR : d.R e w1 base ok v1 (xs ++ ys) := by
      refine ⟨fun k hk => hfresh k (hge k hk), inner ++ news, ?_, Kd.reps_append (hr.imp_ (fun _ _ hq => step hq (fun _ hk => hk.1))) (hnM.imp_ (fun _ _ hq => step hq (fun k hk => (hokp k hk).1)))⟩
      rw [List.length_append, hm]
      exact own_weaken h2 hbase
    rw [if_pos hw]
    unfold Oper.wp execOp
    simp only [ho, resolve, invoke, builtin, Sem.run_bind, Sem.run_pure, Result.andThen_ok, List.map_toArray, List.map_cons, List.map_nil, hs, hx, hrun]
    exact h v1 w1 hR (HB.grown hg' hbase (own_base hown)) hg' (.inr hnew)
/-- make([]T, 0, m), with the room told. -/
theorem R_make_room (d : Kd α) {w0 W : World} (base e : Nat) (hgd : o.guard = none) {N : Tmp} (hd : o.dst = some N) (t : TypeId) (x y : Operand) (ho : o.op = .makeSlice t x y) (n : Int) (hx : a.eval x = .int .i64 0) (hy : a.eval y = .int .i64 n)
    (ht : P.underlying t = some (.slice e)) (z : Value) (bytes : Nat) (hinfo : (P.info? e).map (fun i => (i.zero, i.size, i.bytes)) = some (some z, d.sz, bytes)) (hz : z.cells.size = d.sz) (hs0 : 0 < d.sz) (hb0 : 0 < bytes)
    (z0 : α) {ok okp : Nat → Prop} (hok : ∀ k, okp k → ok k) (hfresh : ok W.heap.size) (h0 : 0 ≤ n) (hl : n.toNat * bytes ≤ 281474976710656) (HB : Below base w0 W) (hbase : base ≤ W.heap.size)
    (h : ∀ v1 w1, d.R e w1 base ok v1 (List.replicate 0 z0) → Below base w0 w1 → W.grownBy w1 none → (∃ b, v1.ownBlock = some b ∧ W.heap.size ≤ b) → Room v1 n.toNat → wpList P ops Q rest (a.put o.dst v1) w1) : wpList P ops Q (o :: rest) a W := by
  obtain ⟨m, rfl⟩ := Int.eq_ofNat_of_zero_le h0
  simp only [Int.toNat_natCast] at hl h
  obtain ⟨i0, hi, hzz⟩ := Option.map_eq_some_iff.1 hinfo
  simp only [Prod.mk.injEq] at hzz
  obtain ⟨hz0, hz1, hz2⟩ := hzz
  have hm : m ≤ 281474976710656 := Nat.le_trans (Nat.le_mul_of_pos_right _ hb0) hl
  have hr := run_make (P := P) W t e i0 z ht hi hz0 .i64 .i64 (0 : Int) (m : Int) (by omega) (by omega)
    (by
      have h3 : ((i0.bytes * m : Nat) : Int) ≤ 281474976710656 := by rw [hz2, Nat.mul_comm]; omega
      rwa [Int.natCast_mul] at h3) (by omega)
  simp only [Int.toNat_natCast] at hr
  rw [hz1] at hr
  have hrun : (execOp a.eval o).run P W = .ok (.value (.slice (some ⟨W.heap.size, 0, none⟩) 0 m)) (W.alloc (.cells (madeCells z.cells (m * d.sz)) e)) := by
    simp [execOp, ho, hx, hy, hr]
  refine Kd.event_run hgd hrun (h _ _ ⟨fun k hk => ?_, [], ?_, ?_⟩ (HB.alloc hbase _) (World.grownBy_alloc W _ none) ⟨W.heap.size, by simp [Value.ownBlock], Nat.le_refl _⟩ ⟨_, _, rfl⟩)
  · have : W.heap.size = k := by simpa [Value.ownBlock] using hk
    subst this
    exact hfresh
  · refine ⟨by simp, .inr ⟨W.heap.size, m, madeCells z.cells (m * d.sz), rfl, hbase, heap_alloc_new W _, Nat.zero_le _, ?_, ?_, ?_⟩⟩
    · show m ≤ 9223372036854775807
      omega
    · simp [size_madeCells]
    · simp
  · exact ⟨by simp, fun j p hp => by simp at hp⟩
/-- What a loop that fills a row with room for all knows of it: never more elements than rounds, and the room it was made with. -/
def Held (v : Value) (c n : Nat) (i : Int) : Prop := Room v c ∧ (n : Int) ≤ i ∧ (c : Int) ≤ 17592186044416
theorem Held.step {v v1 : Value} {c n m : Nat} {i : Int} (h : Held v c n i) (hi : i < (c : Int)) (hm : m = n + 1) (hv : n < c → Room v1 c) : Held v1 c m (wrap64 (i + 1)) := by
  obtain ⟨h1, h2, h3⟩ := h
  have e : wrap64 (i + 1) = i + 1 := by unfold wrap64; omega
  rw [e]
  exact ⟨hv (by omega), by omega, h3⟩
theorem Held.full {A : Option Addr} {k r c n m : Nat} {i : Int} (h : Held (.slice A k r) c n i) (h0 : c - m = 0) (hm : m ≤ c) : r = m := by
  obtain ⟨⟨_, _, e⟩, _, _⟩ := h
  injection e with _ _ e
  omega
theorem cut_full (t e : TypeId) (kh : IntKind) {i : TypeInfo} (ht : P.underlying t = some (.slice e)) (hi : P.info? e = some i) (A : Option Addr) (n c : Nat) (j : Int) (h0 : 0 ≤ j) (hm : j ≤ n) (hn : (n : Int) ≤ j) (hc : n ≤ c) :
    ∀ W : World, (Instr.slice t (.slice A n c) none (some (.int kh j)) (some (.int kh j))).run P W = .ok (.slice A j.toNat j.toNat) W := by
  intro W
  obtain rfl : j = n := Int.le_antisymm hm hn
  have hel : P.elem t = e := by simp [Program.elem, ht]
  have ha : (A.map fun x => x.add 0) = A := by cases A <;> simp [Addr.add]
  have hb : ∀ y : Nat, n ≤ y → ∀ code, (Instr.sliceBound (.int kh (n : Int)) y code).run P W = .ok n W := by
    intro y hy code
    have := run_sliceBound (P := P) (w := W) kh (n : Int) y code (by omega) (by omega)
    simpa using this
  simp [Instr.slice, Instr.sliceBounds, run_underlying ht, hb n (Nat.le_refl _), hb c hc, sizeOf, typeInfo, hi, ha]
theorem room_of {A : Option Addr} {n c m : Nat} (h : Room (.slice A n c) m) : c = m := by
  obtain ⟨_, _, e⟩ := h
  injection e
end Go.Proofs.YthclkdplihchjaaDoor.P

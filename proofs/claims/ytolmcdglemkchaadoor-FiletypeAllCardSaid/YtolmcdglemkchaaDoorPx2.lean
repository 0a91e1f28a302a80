-- Written by a program of this session (wip/gen.py) over the kit's print: each Go function as a plain Lean function, and the proof that the Go code comes to it. Nothing here is trusted: Lean checks it.
import Derived.Test.YtolmcdglemkchaaDoorPx0
namespace Go.Proofs.YtolmcdglemkchaaDoor.P
open Go.RowKit Go.Proofs.YtolmcdglemkchaaDoorW.PrintWords Go.Proofs.YtolmcdglemkchaaDoorW.PrintLast Go.Proofs.YtolmcdglemkchaaDoorW.PrintMore
attribute [local go_sem] str_gtr str_leq str_geq max2_int min2_int max_two min_two max_three min_three max_four min_four   -- for this text's walks alone
set_option linter.unusedVariables false
set_option linter.unusedSimpArgs false

-- NOT PRINTED: function 36 (filetype_bases)

/-! ### filetype_name: function 33: an external -/
def es1 : Array MapEntry := #[{ key := .string ⟨#[116, 101, 120, 116]⟩, val := .int .i64 1, born := 0 }]
def es2 : Array MapEntry := #[{ key := .string ⟨#[116, 101, 120, 116]⟩, val := .int .i64 1, born := 0 }, { key := .string ⟨#[98, 105, 110, 97, 114, 121]⟩, val := .int .i64 2, born := 1 }]
def es3 : Array MapEntry := #[{ key := .string ⟨#[116, 101, 120, 116]⟩, val := .int .i64 1, born := 0 }, { key := .string ⟨#[98, 105, 110, 97, 114, 121]⟩, val := .int .i64 2, born := 1 }, { key := .string ⟨#[108, 105, 110, 107]⟩, val := .int .i64 3, born := 2 }]
theorem run_insert {P : Program} (w : World) (mty kt et : TypeId) (r clock : Nat) (es es' : Array MapEntry) (s : ByteArray) (val : Value) (hm : P.underlying mty = some (.map kt et)) (hk : P.underlying kt = some .string) (hb : w.heap[r]? = some (.map es clock))
    (hf : Instr.findNow .string (.string s) es.toList 0 = some none) (he : es.push { key := .string s, val := val, born := clock } = es') :
    (Instr.mapUpdate mty (.map (some r)) (.string s) val).run P w = .ok () (Go.ChangeMaps.setBlock w r (.map es' (clock + 1))) := by
  have hc : (Instr.checkKey false 10000 kt (.string s)).run P w = .ok () w := MapKept.run_checkKey (k := .string s) hk (by simp [MapKept.IsKey]) false 9999
  simp [Instr.mapUpdate, run_underlying hm, MapKept.run_getObj_map hb, hc, MapKept.run_findKey hk hf, MapKept.run_setObj_map _ hb, Result.andThen, he, Go.ChangeMaps.setBlock]
theorem setBlock_below {B : Nat} {w0 w : World} {b : Nat} (h : Below B w0 w) (hB : B ≤ b) (o : Obj) : Below B w0 (Go.ChangeMaps.setBlock w b o) := by
  refine h.trans ⟨rfl, rfl, rfl, by simp [Go.ChangeMaps.setBlock], fun k hk => ?_⟩
  have : b ≠ k := by omega
  simp [Go.ChangeMaps.setBlock, Array.getElem?_setIfInBounds, this]
theorem setBlock_at {w : World} {b : Nat} {o o' : Obj} (h : w.heap[b]? = some o') : (Go.ChangeMaps.setBlock w b o).heap[b]? = some o := by
  have hlt : b < w.heap.size := blk_lt h
  simp [Go.ChangeMaps.setBlock, Array.getElem?_setIfInBounds, hlt]
theorem setBlock_far {w : World} {b c : Nat} {o : Obj} (h : b ≠ c) : (Go.ChangeMaps.setBlock w b o).heap[c]? = w.heap[c]? := by
  simp [Go.ChangeMaps.setBlock, Array.getElem?_setIfInBounds, h]
theorem wpList_insert_at {P : Program} {w0 w : World} {ops : Array Oper} {rest : List Oper} {o : Oper} {a : Act} {Q : Exit → Act → World → Prop} (hg : o.guard = none) (m : Operand) (t : TypeId) (s : ByteArray) (val : Value) (hop : o.op = Op.insert t m (.const (.string s)) (.const val))
    (kt et : TypeId) (ht : P.underlying t = some (.map kt et)) (hk : P.underlying kt = some .string) (b clock B : Nat) (es es' : Array MapEntry) (hm : a.eval m = .map (some b)) (hb : w.heap[b]? = some (.map es clock)) (hf : Instr.findNow .string (.string s) es.toList 0 = some none)
    (he : es.push { key := .string s, val := val, born := clock } = es') (hB : B ≤ b) (hw : Below B w0 w)
    (hK : ∀ w', w'.heap[b]? = some (.map es' (clock + 1)) → Below B w0 w' → wpList P ops Q rest (a.put o.dst undef) w') : wpList P ops Q (o :: rest) a w := by
  refine wpList_plain hg fun K' hK' => ?_
  have hrun := run_insert (P := P) w t kt et b clock es es' s val ht hk hb hf he
  have hc1 : a.eval (.const (.string s)) = .string s := rfl
  have hc2 : a.eval (.const val) = val := rfl
  unfold Oper.wp
  simp [execOp, hop, hm, hc1, hc2, hrun, Result.andThen]
  exact hK' _ _ (hK _ (setBlock_at hb) (setBlock_below hw hB _))
set_option maxHeartbeats 8000000 in
set_option maxRecDepth 100000 in
theorem bases_calls (w : World) : Calls Tryd.prog 36 #[] w fun e w' => ∃ g, e = .returned (.map (some g)) ∧ w'.heap[g]? = some (.map es3 3) ∧ w.heap.size ≤ g ∧ Below w.heap.size w w' := by
  have hmm := @run_makeMap Tryd.prog
  have hb0 : (w.alloc (.map #[] 0)).heap[w.heap.size]? = some (.map #[] 0) := heap_alloc_new w _
  have hl0 : Below w.heap.size w (w.alloc (.map #[] 0)) := below_alloc (Below.refl _ _) _
  have HB0 := Aside0.mk hb0
  have HL0 := Aside0.mk hl0
  clear hb0 hl0
  go_enter Tryd.func36, Tryd.ntmps36
  go_wp2_with (first
    | (refine wpList_insert_at rfl _ _ ⟨#[116, 101, 120, 116]⟩ (.int .i64 1) rfl 9 3 Tryd.underlying59 Tryd.underlying9 w.heap.size 0 w.heap.size #[] es1 rfl HB0.out rfl rfl (Nat.le_refl _) HL0.out ?_; intro w1 hb1 hl1; have HB1 := Aside0.mk hb1; have HL1 := Aside0.mk hl1; clear hb1 hl1)
    | (refine wpList_insert_at rfl _ _ ⟨#[98, 105, 110, 97, 114, 121]⟩ (.int .i64 2) rfl 9 3 Tryd.underlying59 Tryd.underlying9 w.heap.size 1 w.heap.size es1 es2 rfl HB1.out rfl rfl (Nat.le_refl _) HL1.out ?_; intro w2 hb2 hl2; have HB2 := Aside0.mk hb2; have HL2 := Aside0.mk hl2; clear hb2 hl2)
    | (refine wpList_insert_at rfl _ _ ⟨#[108, 105, 110, 107]⟩ (.int .i64 3) rfl 9 3 Tryd.underlying59 Tryd.underlying9 w.heap.size 2 w.heap.size es2 es3 rfl HB2.out rfl rfl (Nat.le_refl _) HL2.out ?_; intro w3 hb3 hl3; have HB3 := Aside0.mk hb3; have HL3 := Aside0.mk hl3; clear hb3 hl3))
  go_ret
  exact ⟨_, rfl, HB3.out, Nat.le_refl _, HL3.out⟩

theorem wpList_range_at {P : Program} {w0 w : World} {ops : Array Oper} {rest : List Oper} {o : Oper} {a : Act} {Q : Exit → Act → World → Prop} (hg : o.guard = none) (m : Operand) (t : TypeId) (hop : o.op = Op.range t m) (k e : TypeId) (ht : P.underlying t = some (.map k e))
    (b clock B : Nat) (es : Array MapEntry) (hm : a.eval m = .map (some b)) (hb : w.heap[b]? = some (.map es clock)) (hB : B ≤ w.heap.size) (hw : Below B w0 w)
    (hK : ∀ w', w'.heap[w.heap.size]? = some (.mapIter (some b) clock #[] clock) → w'.heap[b]? = some (.map es clock) → Below B w0 w' → wpList P ops Q rest (a.put o.dst (.pointer (some ⟨w.heap.size, 0, none⟩))) w') : wpList P ops Q (o :: rest) a w := by
  refine wpList_plain hg fun K' hK' => ?_
  have hrun := run_range_map (P := P) w t k e b es clock ht hb
  unfold Oper.wp
  simp [execOp, hop, hm, hrun, Result.andThen]
  exact hK' _ _ (hK _ (heap_alloc_new w _) ((heap_alloc_old w _ (blk_lt hb)).trans hb) (hw.alloc hB _))
theorem wpList_next_at {P : Program} {w0 w : World} {ops : Array Oper} {rest : List Oper} {o : Oper} {a : Act} {Q : Exit → Act → World → Prop} (hg : o.guard = none) (it : Operand) (hop : o.op = Op.next it false)
    (r b since clock B : Nat) (seen : Array Nat) (es : Array MapEntry) (hit : a.eval it = .pointer (some ⟨r, 0, none⟩)) (hr : w.heap[r]? = some (.mapIter (some b) since seen clock)) (hb : w.heap[b]? = some (.map es clock))
    (hold : ∀ x ∈ es.toList, x.born < since) (hsc : since ≤ clock) (hnd : (es.toList.map (·.born)).Nodup) (hne : r ≠ b) (hB : B ≤ r) (hw : Below B w0 w)
    (hDone : (leftOf es seen).size = 0 → wpList P ops Q rest (a.put o.dst (.tuple #[.bool false])) w)
    (hMore : ∀ e ∈ (leftOf es seen).toList, ∀ w', w'.heap[r]? = some (.mapIter (some b) since (seen.push e.born) clock) → w'.heap[b]? = some (.map es clock) → Below B w0 w' → (Instr.entry (.pointer (some ⟨r, 0, none⟩))).run P w' = .ok (.tuple #[e.key, e.val]) w' → wpList P ops Q rest (a.put o.dst (.tuple #[.bool true, e.key, e.val])) w') :
    wpList P ops Q (o :: rest) a w := by
  refine wpList_plain hg fun K' hK' => ?_
  unfold Oper.wp
  rcases run_next_at (P := P) w o.type r b since clock seen es clock hr hb hold hsc with ⟨h0, hrun⟩ | ⟨e, he, w1, hw1, hrun⟩
  · simp [execOp, hop, hit, hrun, Result.andThen]
    exact hK' _ _ (hDone h0)
  · simp [execOp, hop, hit, hrun, Result.andThen]
    have hr1 : w1.heap[r]? = some (.mapIter (some b) since seen clock) := by rcases hw1 with rfl | rfl <;> exact hr
    have hb1 : w1.heap[b]? = some (.map es clock) := by rcases hw1 with rfl | rfl <;> exact hb
    have hl1 : Below B w0 w1 := by
      rcases hw1 with rfl | rfl
      · exact hw
      · exact below_drew1 hw
    have e1 := setBlock_at (o := .mapIter (some b) since (seen.push e.born) clock) hr1
    have e2 := (setBlock_far (o := .mapIter (some b) since (seen.push e.born) clock) hne).trans hb1
    refine hK' _ _ (hMore e he _ e1 e2 (setBlock_below hl1 hB _) (run_entry_at _ r b since seen es clock e e1 e2 ?_ hnd))
    have := Array.mem_filter.1 (show e ∈ leftOf es seen by simpa using he)
    simpa using this.1
theorem left_mem (seen : Array Nat) (e : MapEntry) : e ∈ (leftOf es3 seen).toList ↔ e ∈ es3.toList ∧ seen.contains e.born = false := by
  unfold leftOf
  simp
theorem left_size (seen : Array Nat) : (leftOf es3 seen).size = (!seen.contains 0).toNat + (!seen.contains 1).toNat + (!seen.contains 2).toNat := by
  have h : (leftOf es3 seen).size = (es3.toList.filter (fun e => !seen.contains e.born)).length := by
    unfold leftOf
    rw [← Array.length_toList, Array.toList_filter]
  rw [h]
  unfold es3
  simp only [List.filter_cons, List.filter_nil]
  cases seen.contains 0 <;> cases seen.contains 1 <;> cases seen.contains 2 <;> rfl
theorem left_push (seen : Array Nat) (e : MapEntry) (h : e ∈ (leftOf es3 seen).toList) : (leftOf es3 (seen.push e.born)).size < (leftOf es3 seen).size := by
  rw [left_size, left_size]
  have h2 := (left_mem seen e).1 h
  have h3 : ∀ x, (seen.push e.born).contains x = (seen.contains x || x == e.born) := fun x => by rw [Bool.eq_iff_iff]; simp
  rw [h3, h3, h3]
  have h4 : e.born = 0 ∨ e.born = 1 ∨ e.born = 2 := by
    have := h2.1
    simp only [es3, List.mem_cons, List.not_mem_nil, or_false] at this
    rcases this with rfl | rfl | rfl <;> simp
  rcases h4 with h4 | h4 | h4 <;> rw [h4] at h2 ⊢ <;> rw [h2.2] <;> cases seen.contains 0 <;> cases seen.contains 1 <;> cases seen.contains 2 <;> decide
theorem mem3 {e : MapEntry} (h : e ∈ es3.toList) : e = { key := .string ⟨#[116, 101, 120, 116]⟩, val := .int .i64 1, born := 0 } ∨ e = { key := .string ⟨#[98, 105, 110, 97, 114, 121]⟩, val := .int .i64 2, born := 1 } ∨ e = { key := .string ⟨#[108, 105, 110, 107]⟩, val := .int .i64 3, born := 2 } := by
  simpa [es3] using h
def nameR (b : Int) : ByteArray × Bool := if b = 1 then (⟨#[116, 101, 120, 116]⟩, true) else if b = 2 then (⟨#[98, 105, 110, 97, 114, 121]⟩, true) else if b = 3 then (⟨#[108, 105, 110, 107]⟩, true) else (⟨#[]⟩, false)
def filetype_name.f (a0 : Int) : Option (ByteArray × Bool) := some (nameR a0)
set_option maxHeartbeats 8000000 in
set_option maxRecDepth 100000 in
theorem name_calls (b : Int) (w : World) : Calls Tryd.prog 33 #[.int .i64 b] w fun e w' => e = .returned (.tuple #[.string (nameR b).1, .bool (nameR b).2]) ∧ Below w.heap.size w w' := by
  have HW : Aside0 (Below w.heap.size w w) := ⟨Below.refl _ _⟩
  go_enter Tryd.func33, Tryd.ntmps33
  go_wp2_with (first
    | (go_at_call 36; refine (bases_calls _).mono ?_; rintro e w1 ⟨g, rfl, hg1, hg2, hg3⟩; have HG1 := Aside0.mk hg1; have HG2 := Aside0.mk hg2; have HL := Aside0.mk hg3; clear hg1 hg2 hg3)
    | (refine wpList_range_at rfl _ _ rfl 9 3 Tryd.underlying59 g 3 w.heap.size es3 rfl HG1.out (HL.out.size) HL.out ?_; intro w2 hi hb hl; have HI := Aside0.mk hi; have HB := Aside0.mk hb; have HL2 := Aside0.mk hl; clear hi hb hl))
  have hgr : Aside0 (w1.heap.size ≠ g) := ⟨by have := blk_lt HG1.out; omega⟩
  have hbr : Aside0 (w.heap.size ≤ w1.heap.size) := ⟨HL.out.size⟩
  (try simp only [Act.put, List.setIfInBounds_toArray, List.set_cons_zero, List.set_cons_succ])
  go_loopg [] 4 (fun kq w' => ∃ (seen : Array Nat), Aside0 ((leftOf es3 seen).size < kq) ∧ Aside0 (∀ e ∈ es3.toList, e.val = .int .i64 b → e ∈ (leftOf es3 seen).toList) ∧ Aside0 (w'.heap[w1.heap.size]? = some (.mapIter (some g) 3 seen 3)) ∧ Aside0 (w'.heap[g]? = some (.map es3 3)) ∧ Aside0 (Below w.heap.size w w'))
  case atStart => exact ⟨#[], ⟨by rw [left_size]; simp⟩, ⟨fun e he _ => (left_mem _ _).2 ⟨he, by simp⟩⟩, HI, HB, HL2⟩
  case round =>
    clear HI HB HL2
    obtain ⟨seen, HS, HV, HI, HB, HL2⟩ := hrel
    cases gk with
    | zero => exact absurd HS.out (Nat.not_lt_zero _)
    | succ k2 =>
      go_wp2_with (first
        | (refine wpList_next_at rfl _ rfl w1.heap.size g 3 3 w.heap.size seen es3 rfl HI.out HB.out (by decide) (Nat.le_refl _) (by decide) hgr.out hbr.out HL2.out (fun h0 => ?_) (fun e he w3 hi3 hb3 hl3 hen => ?_)))
      · have hn : ∀ e ∈ es3.toList, e.val ≠ .int .i64 b := fun e he hv => by
          have := HV.out e he hv
          have h1 : (leftOf es3 seen).toList = [] := List.eq_nil_of_length_eq_zero (by simpa using h0)
          rw [h1] at this
          cases this
        have n1 : b ≠ 1 := fun h => hn _ (by simp [es3]; exact .inl rfl) (by rw [h])
        have n2 : b ≠ 2 := fun h => hn _ (by simp [es3]; exact .inr (.inl rfl)) (by rw [h])
        have n3 : b ≠ 3 := fun h => hn _ (by simp [es3]; exact .inr (.inr rfl)) (by rw [h])
        have hN : nameR b = (⟨#[]⟩, false) := by simp [nameR, n1, n2, n3]
        have HN := Aside0.mk hN
        clear hN n1 n2 n3 hn h0
        go_wp2
        go_ret2
        rw [HN.out]
        exact ⟨rfl, HL2.out⟩
      · have hs := left_push seen e he
        obtain ⟨hm, hc⟩ := (left_mem seen e).1 he
        have HS2 : Aside0 ((leftOf es3 (seen.push e.born)).size < k2) := ⟨by have := HS.out; omega⟩
        have HV2 : Aside0 (∀ x ∈ es3.toList, x.val = .int .i64 b → x.born ≠ e.born → x ∈ (leftOf es3 (seen.push e.born)).toList) := ⟨fun x hx hv hne => by
          have h1 := (left_mem seen x).1 (HV.out x hx hv)
          rw [left_mem]
          refine ⟨hx, ?_⟩
          rw [Array.contains_push, h1.2]
          simpa using hne⟩
        have HI3 := Aside0.mk hi3
        have HB3 := Aside0.mk hb3
        have HL3 := Aside0.mk hl3
        clear hi3 hb3 hl3 hs he hc
        rcases mem3 hm with rfl | rfl | rfl
        · clear hm
          by_cases hb : b = 1
          · subst hb
            go_wp2
            go_ret2
            exact ⟨rfl, HL3.out⟩
          · have hb2 : ((1 : Int) == b) = false := beq_eq_false_iff_ne.2 (fun h => hb h.symm)
            have HV3 : Aside0 (∀ x ∈ es3.toList, x.val = .int .i64 b → x ∈ (leftOf es3 (seen.push 0)).toList) := ⟨fun x hx hv => by
              refine HV2.out x hx hv (fun h => ?_)
              rcases mem3 hx with rfl | rfl | rfl
              · first | (cases h; done) | (injection hv with _ hv; exact hb hv.symm)
              · first | (cases h; done) | (injection hv with _ hv; exact hb hv.symm)
              · first | (cases h; done) | (injection hv with _ hv; exact hb hv.symm)⟩
            clear HV2 hb
            go_wp2
            go_roundg k2
            case measure => omega
            case rel => exact ⟨_, HS2, HV3, HI3, HB3, HL3⟩
        · clear hm
          by_cases hb : b = 2
          · subst hb
            go_wp2
            go_ret2
            exact ⟨rfl, HL3.out⟩
          · have hb2 : ((2 : Int) == b) = false := beq_eq_false_iff_ne.2 (fun h => hb h.symm)
            have HV3 : Aside0 (∀ x ∈ es3.toList, x.val = .int .i64 b → x ∈ (leftOf es3 (seen.push 1)).toList) := ⟨fun x hx hv => by
              refine HV2.out x hx hv (fun h => ?_)
              rcases mem3 hx with rfl | rfl | rfl
              · first | (cases h; done) | (injection hv with _ hv; exact hb hv.symm)
              · first | (cases h; done) | (injection hv with _ hv; exact hb hv.symm)
              · first | (cases h; done) | (injection hv with _ hv; exact hb hv.symm)⟩
            clear HV2 hb
            go_wp2
            go_roundg k2
            case measure => omega
            case rel => exact ⟨_, HS2, HV3, HI3, HB3, HL3⟩
        · clear hm
          by_cases hb : b = 3
          · subst hb
            go_wp2
            go_ret2
            exact ⟨rfl, HL3.out⟩
          · have hb2 : ((3 : Int) == b) = false := beq_eq_false_iff_ne.2 (fun h => hb h.symm)
            have HV3 : Aside0 (∀ x ∈ es3.toList, x.val = .int .i64 b → x ∈ (leftOf es3 (seen.push 2)).toList) := ⟨fun x hx hv => by
              refine HV2.out x hx hv (fun h => ?_)
              rcases mem3 hx with rfl | rfl | rfl
              · first | (cases h; done) | (injection hv with _ hv; exact hb hv.symm)
              · first | (cases h; done) | (injection hv with _ hv; exact hb hv.symm)
              · first | (cases h; done) | (injection hv with _ hv; exact hb hv.symm)⟩
            clear HV2 hb
            go_wp2
            go_roundg k2
            case measure => omega
            case rel => exact ⟨_, HS2, HV3, HI3, HB3, HL3⟩
theorem filetype_name.calls (a0 : Int) (r1 : ByteArray) (r2 : Bool) (w : World) (h : filetype_name.f a0 = some (r1, r2)) :
    Calls Tryd.prog 33 #[.int .i64 a0] w fun e w' => e = .returned (.tuple #[.string r1, .bool r2]) ∧ Below w.heap.size w w' := by
  have h := Option.some.inj h
  refine (name_calls a0 w).mono ?_
  rw [h]
  exact fun _ _ h => h

/-! ### filetype_Check: function 15 -/
def filetype_Check.f (a0_0 : Int) (a0_1 : Bool) (a0_2 : Bool) (a0_3 : Bool) : Option (Int) := (filetype_name.f a0_0).bind fun bt102 => (if bt102.2 = true then (if a0_1 = true then (if a0_0 = 1 then (if a0_3 = true then (if a0_0 = 3 then (some 90) else (some 0)) else (some 0)) else (some 90)) else (if a0_3 = true then (if a0_0 = 3 then (some 90) else (some 0)) else (some 0))) else (some 90))
set_option maxHeartbeats 8000000 in
set_option maxRecDepth 100000 in
theorem filetype_Check.calls (a0_0 : Int) (a0_1 : Bool) (a0_2 : Bool) (a0_3 : Bool) (r : Int) (w : World) (h : filetype_Check.f a0_0 a0_1 a0_2 a0_3 = some r) :
    Calls Tryd.prog 15 #[.agg #[.int .i64 a0_0, .bool a0_1, .bool a0_2, .bool a0_3]] w fun e w' => e = .returned (.int .i64 r) ∧ Below w.heap.size w w' := by
  have hu23 := Tryd.underlying23
  have HB := Aside0.mk (Below.refl w.heap.size w)
  have H : ((filetype_name.f a0_0).bind fun bt102 => (if bt102.2 = true then (if a0_1 = true then (if a0_0 = 1 then (if a0_3 = true then (if a0_0 = 3 then (some 90) else (some 0)) else (some 0)) else (some 90)) else (if a0_3 = true then (if a0_0 = 3 then (some 90) else (some 0)) else (some 0))) else (some 90))) = some r := h
  clear h
  replace H := Option.bind_eq_some_iff.mp H
  obtain ⟨⟨t102, t103⟩, A20, H⟩ := H
  replace H : (if t103 = true then (if a0_1 = true then (if a0_0 = 1 then (if a0_3 = true then (if a0_0 = 3 then (some 90) else (some 0)) else (some 0)) else (some 90)) else (if a0_3 = true then (if a0_0 = 3 then (some 90) else (some 0)) else (some 0))) else (some 90)) = some r := H
  have A2 := Aside0.mk A20
  clear A20
  by_cases c3 : t103 = true
  · subst c3
    have H1 : (if a0_1 = true then (if a0_0 = 1 then (if a0_3 = true then (if a0_0 = 3 then (some 90) else (some 0)) else (some 0)) else (some 90)) else (if a0_3 = true then (if a0_0 = 3 then (some 90) else (some 0)) else (some 0))) = some r := by rw [if_pos rfl] at H; exact H
    clear H
    have H := H1
    clear H1
    by_cases c4 : a0_1 = true
    · subst c4
      have H1 : (if a0_0 = 1 then (if a0_3 = true then (if a0_0 = 3 then (some 90) else (some 0)) else (some 0)) else (some 90)) = some r := by rw [if_pos rfl] at H; exact H
      clear H
      have H := H1
      clear H1
      by_cases c5 : a0_0 = 1
      · rw [if_pos c5] at H
        have c5b0 : (a0_0 == 1) = true := beq_iff_eq.mpr c5
        have c5b1 : (a0_0 != 1) = false := bne_eq_false_iff_eq.mpr c5
        clear c5
        by_cases c6 : a0_3 = true
        · subst c6
          have H1 : (if a0_0 = 3 then (some 90) else (some 0)) = some r := by rw [if_pos rfl] at H; exact H
          clear H
          have H := H1
          clear H1
          by_cases c7 : a0_0 = 3
          · rw [if_pos c7] at H
            have c7b0 : (a0_0 == 3) = true := beq_iff_eq.mpr c7
            have c7b1 : (a0_0 != 3) = false := bne_eq_false_iff_eq.mpr c7
            clear c7
            obtain rfl := Option.some.inj H
            go_enter Tryd.func15, Tryd.ntmps15
            go_wp2_with (first | ((with_reducible refine gate_dst (N := 1) rfl ?_); refine box_event ?hg (N := 1) ?hd (cs := #[.int .i64 a0_0, .bool true, .bool a0_2, .bool true]) (t := 23) ?hr ?_; (case hd => rfl); (case hg => rfl); (case hr => first | (go_simp; done) | (go_simp; rfl)); intro gb101 hg w8 hbox hb; have n0_ := Aside0.mk (below_step (by repeat (first | (with_reducible first | exact HB.out | apply below_alloc | apply pw_below_drewN | apply below_drew1) | exact HB.out)) hb); have n1_ := Aside0.mk (hbox); have n2_ := Aside0.mk ((by rw [hg]; exact (below_size (by repeat (first | (with_reducible first | exact HB.out | apply below_alloc | apply pw_below_drewN | apply below_drew1) | exact HB.out))) : w.heap.size ≤ gb101)); have n3_ := Aside0.mk ((by rw [hg]; exact (below_size (by repeat (first | (with_reducible first | exact HB.out | apply below_alloc | apply pw_below_drewN | apply below_drew1) | exact HB.out))) : w.heap.size ≤ gb101)); clear HB; have HB := n0_; have BK101 := n1_; have GW101 := n2_; have GE101 := n3_; clear n0_ n1_ n2_ n3_; clear hb hbox hg; have hcz9_0 : w8.cell? ⟨gb101, 0, none⟩ = some (.int .i64 a0_0) := (blk_cell BK101.out 0).trans rfl; have hcz9_1 : w8.cell? ⟨gb101, 1, none⟩ = some (.bool true) := (blk_cell BK101.out 1).trans rfl; have hcz9_2 : w8.cell? ⟨gb101, 2, none⟩ = some (.bool a0_2) := (blk_cell BK101.out 2).trans rfl; have hcz9_3 : w8.cell? ⟨gb101, 3, none⟩ = some (.bool true) := (blk_cell BK101.out 3).trans rfl; have hfz9_0 := blk_frozen BK101.out 0; have hfz9_1 := blk_frozen BK101.out 1; have hfz9_2 := blk_frozen BK101.out 2; have hfz9_3 := blk_frozen BK101.out 3) | ((with_reducible refine gate_callee (f := 33) rfl ?_); refine goesL_ (some 8) rfl rfl Tryd.func33 (by kernel_rfl) rfl #[.int .i64 a0_0] rfl (by (try simp only [List.map_toArray, List.map_cons, List.map_nil]); first | done | rfl | (simp only [List.length_drop, List.length_take]; rfl)) ?_; (with_reducible refine (filetype_name.calls a0_0 t102 true _ A2.out).mono ?_); rintro e w10 ⟨rfl, hb⟩; refine ⟨_, rfl, ?_⟩; have n0_ := Aside0.mk (blk_below (g := gb101) (o := .cells #[.int .i64 a0_0, .bool true, .bool a0_2, .bool true] 23 (0, 0)) (by (with_reducible repeat (first | refine blk_drewN ?_ _ | refine blk_drew ?_ | refine blk_alloc ?_ _)); exact BK101.out) hb); have n1_ := Aside0.mk (below_step (by repeat (first | (with_reducible first | exact HB.out | apply below_alloc | apply pw_below_drewN | apply below_drew1 | refine below_set ?_ GE101.out) | exact HB.out)) hb); clear BK101; clear HB; have BK101 := n0_; have HB := n1_; clear n0_ n1_; (try clear hb); (try clear hb2); (try clear hk); (try clear hi); have hcz11_0 : w10.cell? ⟨gb101, 0, none⟩ = some (.int .i64 a0_0) := (blk_cell BK101.out 0).trans rfl; have hcz11_1 : w10.cell? ⟨gb101, 1, none⟩ = some (.bool true) := (blk_cell BK101.out 1).trans rfl; have hcz11_2 : w10.cell? ⟨gb101, 2, none⟩ = some (.bool a0_2) := (blk_cell BK101.out 2).trans rfl; have hcz11_3 : w10.cell? ⟨gb101, 3, none⟩ = some (.bool true) := (blk_cell BK101.out 3).trans rfl; have hfz11_0 := blk_frozen BK101.out 0; have hfz11_1 := blk_frozen BK101.out 1; have hfz11_2 := blk_frozen BK101.out 2; have hfz11_3 := blk_frozen BK101.out 3))
            go_ret
            exact ⟨by first | rfl | (simp [errW_none, errW_some] <;> rfl) | (simp [*, errW_none, errW_some] <;> rfl), by repeat (first | (with_reducible first | exact HB.out | apply below_alloc | apply pw_below_drewN | apply below_drew1 | refine below_set ?_ GE101.out) | exact HB.out)⟩
          · rw [if_neg c7] at H
            have c7b0 : (a0_0 == 3) = false := beq_eq_false_iff_ne.mpr c7
            have c7b1 : (a0_0 != 3) = true := bne_iff_ne.mpr c7
            obtain rfl := Option.some.inj H
            go_enter Tryd.func15, Tryd.ntmps15
            go_wp2_with (first | ((with_reducible refine gate_dst (N := 1) rfl ?_); refine box_event ?hg (N := 1) ?hd (cs := #[.int .i64 a0_0, .bool true, .bool a0_2, .bool true]) (t := 23) ?hr ?_; (case hd => rfl); (case hg => rfl); (case hr => first | (go_simp; done) | (go_simp; rfl)); intro gb101 hg w12 hbox hb; have n0_ := Aside0.mk (below_step (by repeat (first | (with_reducible first | exact HB.out | apply below_alloc | apply pw_below_drewN | apply below_drew1) | exact HB.out)) hb); have n1_ := Aside0.mk (hbox); have n2_ := Aside0.mk ((by rw [hg]; exact (below_size (by repeat (first | (with_reducible first | exact HB.out | apply below_alloc | apply pw_below_drewN | apply below_drew1) | exact HB.out))) : w.heap.size ≤ gb101)); have n3_ := Aside0.mk ((by rw [hg]; exact (below_size (by repeat (first | (with_reducible first | exact HB.out | apply below_alloc | apply pw_below_drewN | apply below_drew1) | exact HB.out))) : w.heap.size ≤ gb101)); clear HB; have HB := n0_; have BK101 := n1_; have GW101 := n2_; have GE101 := n3_; clear n0_ n1_ n2_ n3_; clear hb hbox hg; have hcz13_0 : w12.cell? ⟨gb101, 0, none⟩ = some (.int .i64 a0_0) := (blk_cell BK101.out 0).trans rfl; have hcz13_1 : w12.cell? ⟨gb101, 1, none⟩ = some (.bool true) := (blk_cell BK101.out 1).trans rfl; have hcz13_2 : w12.cell? ⟨gb101, 2, none⟩ = some (.bool a0_2) := (blk_cell BK101.out 2).trans rfl; have hcz13_3 : w12.cell? ⟨gb101, 3, none⟩ = some (.bool true) := (blk_cell BK101.out 3).trans rfl; have hfz13_0 := blk_frozen BK101.out 0; have hfz13_1 := blk_frozen BK101.out 1; have hfz13_2 := blk_frozen BK101.out 2; have hfz13_3 := blk_frozen BK101.out 3) | ((with_reducible refine gate_callee (f := 33) rfl ?_); refine goesL_ (some 8) rfl rfl Tryd.func33 (by kernel_rfl) rfl #[.int .i64 a0_0] rfl (by (try simp only [List.map_toArray, List.map_cons, List.map_nil]); first | done | rfl | (simp only [List.length_drop, List.length_take]; rfl)) ?_; (with_reducible refine (filetype_name.calls a0_0 t102 true _ A2.out).mono ?_); rintro e w14 ⟨rfl, hb⟩; refine ⟨_, rfl, ?_⟩; have n0_ := Aside0.mk (blk_below (g := gb101) (o := .cells #[.int .i64 a0_0, .bool true, .bool a0_2, .bool true] 23 (0, 0)) (by (with_reducible repeat (first | refine blk_drewN ?_ _ | refine blk_drew ?_ | refine blk_alloc ?_ _)); exact BK101.out) hb); have n1_ := Aside0.mk (below_step (by repeat (first | (with_reducible first | exact HB.out | apply below_alloc | apply pw_below_drewN | apply below_drew1 | refine below_set ?_ GE101.out) | exact HB.out)) hb); clear BK101; clear HB; have BK101 := n0_; have HB := n1_; clear n0_ n1_; (try clear hb); (try clear hb2); (try clear hk); (try clear hi); have hcz15_0 : w14.cell? ⟨gb101, 0, none⟩ = some (.int .i64 a0_0) := (blk_cell BK101.out 0).trans rfl; have hcz15_1 : w14.cell? ⟨gb101, 1, none⟩ = some (.bool true) := (blk_cell BK101.out 1).trans rfl; have hcz15_2 : w14.cell? ⟨gb101, 2, none⟩ = some (.bool a0_2) := (blk_cell BK101.out 2).trans rfl; have hcz15_3 : w14.cell? ⟨gb101, 3, none⟩ = some (.bool true) := (blk_cell BK101.out 3).trans rfl; have hfz15_0 := blk_frozen BK101.out 0; have hfz15_1 := blk_frozen BK101.out 1; have hfz15_2 := blk_frozen BK101.out 2; have hfz15_3 := blk_frozen BK101.out 3))
            go_ret
            exact ⟨by first | rfl | (simp [errW_none, errW_some] <;> rfl) | (simp [*, errW_none, errW_some] <;> rfl), by repeat (first | (with_reducible first | exact HB.out | apply below_alloc | apply pw_below_drewN | apply below_drew1 | refine below_set ?_ GE101.out) | exact HB.out)⟩
        · replace c6 := Bool.eq_false_iff.mpr c6
          subst c6
          have H1 : (some 0) = some r := by rw [if_neg (show ¬ (false = true) by decide)] at H; exact H
          clear H
          have H := H1
          clear H1
          obtain rfl := Option.some.inj H
          go_enter Tryd.func15, Tryd.ntmps15
          go_wp2_with (first | ((with_reducible refine gate_dst (N := 1) rfl ?_); refine box_event ?hg (N := 1) ?hd (cs := #[.int .i64 a0_0, .bool true, .bool a0_2, .bool false]) (t := 23) ?hr ?_; (case hd => rfl); (case hg => rfl); (case hr => first | (go_simp; done) | (go_simp; rfl)); intro gb101 hg w16 hbox hb; have n0_ := Aside0.mk (below_step (by repeat (first | (with_reducible first | exact HB.out | apply below_alloc | apply pw_below_drewN | apply below_drew1) | exact HB.out)) hb); have n1_ := Aside0.mk (hbox); have n2_ := Aside0.mk ((by rw [hg]; exact (below_size (by repeat (first | (with_reducible first | exact HB.out | apply below_alloc | apply pw_below_drewN | apply below_drew1) | exact HB.out))) : w.heap.size ≤ gb101)); have n3_ := Aside0.mk ((by rw [hg]; exact (below_size (by repeat (first | (with_reducible first | exact HB.out | apply below_alloc | apply pw_below_drewN | apply below_drew1) | exact HB.out))) : w.heap.size ≤ gb101)); clear HB; have HB := n0_; have BK101 := n1_; have GW101 := n2_; have GE101 := n3_; clear n0_ n1_ n2_ n3_; clear hb hbox hg; have hcz17_0 : w16.cell? ⟨gb101, 0, none⟩ = some (.int .i64 a0_0) := (blk_cell BK101.out 0).trans rfl; have hcz17_1 : w16.cell? ⟨gb101, 1, none⟩ = some (.bool true) := (blk_cell BK101.out 1).trans rfl; have hcz17_2 : w16.cell? ⟨gb101, 2, none⟩ = some (.bool a0_2) := (blk_cell BK101.out 2).trans rfl; have hcz17_3 : w16.cell? ⟨gb101, 3, none⟩ = some (.bool false) := (blk_cell BK101.out 3).trans rfl; have hfz17_0 := blk_frozen BK101.out 0; have hfz17_1 := blk_frozen BK101.out 1; have hfz17_2 := blk_frozen BK101.out 2; have hfz17_3 := blk_frozen BK101.out 3) | ((with_reducible refine gate_callee (f := 33) rfl ?_); refine goesL_ (some 8) rfl rfl Tryd.func33 (by kernel_rfl) rfl #[.int .i64 a0_0] rfl (by (try simp only [List.map_toArray, List.map_cons, List.map_nil]); first | done | rfl | (simp only [List.length_drop, List.length_take]; rfl)) ?_; (with_reducible refine (filetype_name.calls a0_0 t102 true _ A2.out).mono ?_); rintro e w18 ⟨rfl, hb⟩; refine ⟨_, rfl, ?_⟩; have n0_ := Aside0.mk (blk_below (g := gb101) (o := .cells #[.int .i64 a0_0, .bool true, .bool a0_2, .bool false] 23 (0, 0)) (by (with_reducible repeat (first | refine blk_drewN ?_ _ | refine blk_drew ?_ | refine blk_alloc ?_ _)); exact BK101.out) hb); have n1_ := Aside0.mk (below_step (by repeat (first | (with_reducible first | exact HB.out | apply below_alloc | apply pw_below_drewN | apply below_drew1 | refine below_set ?_ GE101.out) | exact HB.out)) hb); clear BK101; clear HB; have BK101 := n0_; have HB := n1_; clear n0_ n1_; (try clear hb); (try clear hb2); (try clear hk); (try clear hi); have hcz19_0 : w18.cell? ⟨gb101, 0, none⟩ = some (.int .i64 a0_0) := (blk_cell BK101.out 0).trans rfl; have hcz19_1 : w18.cell? ⟨gb101, 1, none⟩ = some (.bool true) := (blk_cell BK101.out 1).trans rfl; have hcz19_2 : w18.cell? ⟨gb101, 2, none⟩ = some (.bool a0_2) := (blk_cell BK101.out 2).trans rfl; have hcz19_3 : w18.cell? ⟨gb101, 3, none⟩ = some (.bool false) := (blk_cell BK101.out 3).trans rfl; have hfz19_0 := blk_frozen BK101.out 0; have hfz19_1 := blk_frozen BK101.out 1; have hfz19_2 := blk_frozen BK101.out 2; have hfz19_3 := blk_frozen BK101.out 3))
          go_ret
          exact ⟨by first | rfl | (simp [errW_none, errW_some] <;> rfl) | (simp [*, errW_none, errW_some] <;> rfl), by repeat (first | (with_reducible first | exact HB.out | apply below_alloc | apply pw_below_drewN | apply below_drew1 | refine below_set ?_ GE101.out) | exact HB.out)⟩
      · rw [if_neg c5] at H
        have c5b0 : (a0_0 == 1) = false := beq_eq_false_iff_ne.mpr c5
        have c5b1 : (a0_0 != 1) = true := bne_iff_ne.mpr c5
        obtain rfl := Option.some.inj H
        go_enter Tryd.func15, Tryd.ntmps15
        go_wp2_with (first | ((with_reducible refine gate_dst (N := 1) rfl ?_); refine box_event ?hg (N := 1) ?hd (cs := #[.int .i64 a0_0, .bool true, .bool a0_2, .bool a0_3]) (t := 23) ?hr ?_; (case hd => rfl); (case hg => rfl); (case hr => first | (go_simp; done) | (go_simp; rfl)); intro gb101 hg w20 hbox hb; have n0_ := Aside0.mk (below_step (by repeat (first | (with_reducible first | exact HB.out | apply below_alloc | apply pw_below_drewN | apply below_drew1) | exact HB.out)) hb); have n1_ := Aside0.mk (hbox); have n2_ := Aside0.mk ((by rw [hg]; exact (below_size (by repeat (first | (with_reducible first | exact HB.out | apply below_alloc | apply pw_below_drewN | apply below_drew1) | exact HB.out))) : w.heap.size ≤ gb101)); have n3_ := Aside0.mk ((by rw [hg]; exact (below_size (by repeat (first | (with_reducible first | exact HB.out | apply below_alloc | apply pw_below_drewN | apply below_drew1) | exact HB.out))) : w.heap.size ≤ gb101)); clear HB; have HB := n0_; have BK101 := n1_; have GW101 := n2_; have GE101 := n3_; clear n0_ n1_ n2_ n3_; clear hb hbox hg; have hcz21_0 : w20.cell? ⟨gb101, 0, none⟩ = some (.int .i64 a0_0) := (blk_cell BK101.out 0).trans rfl; have hcz21_1 : w20.cell? ⟨gb101, 1, none⟩ = some (.bool true) := (blk_cell BK101.out 1).trans rfl; have hcz21_2 : w20.cell? ⟨gb101, 2, none⟩ = some (.bool a0_2) := (blk_cell BK101.out 2).trans rfl; have hcz21_3 : w20.cell? ⟨gb101, 3, none⟩ = some (.bool a0_3) := (blk_cell BK101.out 3).trans rfl; have hfz21_0 := blk_frozen BK101.out 0; have hfz21_1 := blk_frozen BK101.out 1; have hfz21_2 := blk_frozen BK101.out 2; have hfz21_3 := blk_frozen BK101.out 3) | ((with_reducible refine gate_callee (f := 33) rfl ?_); refine goesL_ (some 8) rfl rfl Tryd.func33 (by kernel_rfl) rfl #[.int .i64 a0_0] rfl (by (try simp only [List.map_toArray, List.map_cons, List.map_nil]); first | done | rfl | (simp only [List.length_drop, List.length_take]; rfl)) ?_; (with_reducible refine (filetype_name.calls a0_0 t102 true _ A2.out).mono ?_); rintro e w22 ⟨rfl, hb⟩; refine ⟨_, rfl, ?_⟩; have n0_ := Aside0.mk (blk_below (g := gb101) (o := .cells #[.int .i64 a0_0, .bool true, .bool a0_2, .bool a0_3] 23 (0, 0)) (by (with_reducible repeat (first | refine blk_drewN ?_ _ | refine blk_drew ?_ | refine blk_alloc ?_ _)); exact BK101.out) hb); have n1_ := Aside0.mk (below_step (by repeat (first | (with_reducible first | exact HB.out | apply below_alloc | apply pw_below_drewN | apply below_drew1 | refine below_set ?_ GE101.out) | exact HB.out)) hb); clear BK101; clear HB; have BK101 := n0_; have HB := n1_; clear n0_ n1_; (try clear hb); (try clear hb2); (try clear hk); (try clear hi); have hcz23_0 : w22.cell? ⟨gb101, 0, none⟩ = some (.int .i64 a0_0) := (blk_cell BK101.out 0).trans rfl; have hcz23_1 : w22.cell? ⟨gb101, 1, none⟩ = some (.bool true) := (blk_cell BK101.out 1).trans rfl; have hcz23_2 : w22.cell? ⟨gb101, 2, none⟩ = some (.bool a0_2) := (blk_cell BK101.out 2).trans rfl; have hcz23_3 : w22.cell? ⟨gb101, 3, none⟩ = some (.bool a0_3) := (blk_cell BK101.out 3).trans rfl; have hfz23_0 := blk_frozen BK101.out 0; have hfz23_1 := blk_frozen BK101.out 1; have hfz23_2 := blk_frozen BK101.out 2; have hfz23_3 := blk_frozen BK101.out 3))
        go_ret
        exact ⟨by first | rfl | (simp [errW_none, errW_some] <;> rfl) | (simp [*, errW_none, errW_some] <;> rfl), by repeat (first | (with_reducible first | exact HB.out | apply below_alloc | apply pw_below_drewN | apply below_drew1 | refine below_set ?_ GE101.out) | exact HB.out)⟩
    · replace c4 := Bool.eq_false_iff.mpr c4
      subst c4
      have H1 : (if a0_3 = true then (if a0_0 = 3 then (some 90) else (some 0)) else (some 0)) = some r := by rw [if_neg (show ¬ (false = true) by decide)] at H; exact H
      clear H
      have H := H1
      clear H1
      by_cases c24 : a0_3 = true
      · subst c24
        have H1 : (if a0_0 = 3 then (some 90) else (some 0)) = some r := by rw [if_pos rfl] at H; exact H
        clear H
        have H := H1
        clear H1
        by_cases c25 : a0_0 = 3
        · rw [if_pos c25] at H
          have c25b0 : (a0_0 == 3) = true := beq_iff_eq.mpr c25
          have c25b1 : (a0_0 != 3) = false := bne_eq_false_iff_eq.mpr c25
          clear c25
          obtain rfl := Option.some.inj H
          go_enter Tryd.func15, Tryd.ntmps15
          go_wp2_with (first | ((with_reducible refine gate_dst (N := 1) rfl ?_); refine box_event ?hg (N := 1) ?hd (cs := #[.int .i64 a0_0, .bool false, .bool a0_2, .bool true]) (t := 23) ?hr ?_; (case hd => rfl); (case hg => rfl); (case hr => first | (go_simp; done) | (go_simp; rfl)); intro gb101 hg w26 hbox hb; have n0_ := Aside0.mk (below_step (by repeat (first | (with_reducible first | exact HB.out | apply below_alloc | apply pw_below_drewN | apply below_drew1) | exact HB.out)) hb); have n1_ := Aside0.mk (hbox); have n2_ := Aside0.mk ((by rw [hg]; exact (below_size (by repeat (first | (with_reducible first | exact HB.out | apply below_alloc | apply pw_below_drewN | apply below_drew1) | exact HB.out))) : w.heap.size ≤ gb101)); have n3_ := Aside0.mk ((by rw [hg]; exact (below_size (by repeat (first | (with_reducible first | exact HB.out | apply below_alloc | apply pw_below_drewN | apply below_drew1) | exact HB.out))) : w.heap.size ≤ gb101)); clear HB; have HB := n0_; have BK101 := n1_; have GW101 := n2_; have GE101 := n3_; clear n0_ n1_ n2_ n3_; clear hb hbox hg; have hcz27_0 : w26.cell? ⟨gb101, 0, none⟩ = some (.int .i64 a0_0) := (blk_cell BK101.out 0).trans rfl; have hcz27_1 : w26.cell? ⟨gb101, 1, none⟩ = some (.bool false) := (blk_cell BK101.out 1).trans rfl; have hcz27_2 : w26.cell? ⟨gb101, 2, none⟩ = some (.bool a0_2) := (blk_cell BK101.out 2).trans rfl; have hcz27_3 : w26.cell? ⟨gb101, 3, none⟩ = some (.bool true) := (blk_cell BK101.out 3).trans rfl; have hfz27_0 := blk_frozen BK101.out 0; have hfz27_1 := blk_frozen BK101.out 1; have hfz27_2 := blk_frozen BK101.out 2; have hfz27_3 := blk_frozen BK101.out 3) | ((with_reducible refine gate_callee (f := 33) rfl ?_); refine goesL_ (some 8) rfl rfl Tryd.func33 (by kernel_rfl) rfl #[.int .i64 a0_0] rfl (by (try simp only [List.map_toArray, List.map_cons, List.map_nil]); first | done | rfl | (simp only [List.length_drop, List.length_take]; rfl)) ?_; (with_reducible refine (filetype_name.calls a0_0 t102 true _ A2.out).mono ?_); rintro e w28 ⟨rfl, hb⟩; refine ⟨_, rfl, ?_⟩; have n0_ := Aside0.mk (blk_below (g := gb101) (o := .cells #[.int .i64 a0_0, .bool false, .bool a0_2, .bool true] 23 (0, 0)) (by (with_reducible repeat (first | refine blk_drewN ?_ _ | refine blk_drew ?_ | refine blk_alloc ?_ _)); exact BK101.out) hb); have n1_ := Aside0.mk (below_step (by repeat (first | (with_reducible first | exact HB.out | apply below_alloc | apply pw_below_drewN | apply below_drew1 | refine below_set ?_ GE101.out) | exact HB.out)) hb); clear BK101; clear HB; have BK101 := n0_; have HB := n1_; clear n0_ n1_; (try clear hb); (try clear hb2); (try clear hk); (try clear hi); have hcz29_0 : w28.cell? ⟨gb101, 0, none⟩ = some (.int .i64 a0_0) := (blk_cell BK101.out 0).trans rfl; have hcz29_1 : w28.cell? ⟨gb101, 1, none⟩ = some (.bool false) := (blk_cell BK101.out 1).trans rfl; have hcz29_2 : w28.cell? ⟨gb101, 2, none⟩ = some (.bool a0_2) := (blk_cell BK101.out 2).trans rfl; have hcz29_3 : w28.cell? ⟨gb101, 3, none⟩ = some (.bool true) := (blk_cell BK101.out 3).trans rfl; have hfz29_0 := blk_frozen BK101.out 0; have hfz29_1 := blk_frozen BK101.out 1; have hfz29_2 := blk_frozen BK101.out 2; have hfz29_3 := blk_frozen BK101.out 3))
          go_ret
          exact ⟨by first | rfl | (simp [errW_none, errW_some] <;> rfl) | (simp [*, errW_none, errW_some] <;> rfl), by repeat (first | (with_reducible first | exact HB.out | apply below_alloc | apply pw_below_drewN | apply below_drew1 | refine below_set ?_ GE101.out) | exact HB.out)⟩
        · rw [if_neg c25] at H
          have c25b0 : (a0_0 == 3) = false := beq_eq_false_iff_ne.mpr c25
          have c25b1 : (a0_0 != 3) = true := bne_iff_ne.mpr c25
          obtain rfl := Option.some.inj H
          go_enter Tryd.func15, Tryd.ntmps15
          go_wp2_with (first | ((with_reducible refine gate_dst (N := 1) rfl ?_); refine box_event ?hg (N := 1) ?hd (cs := #[.int .i64 a0_0, .bool false, .bool a0_2, .bool true]) (t := 23) ?hr ?_; (case hd => rfl); (case hg => rfl); (case hr => first | (go_simp; done) | (go_simp; rfl)); intro gb101 hg w30 hbox hb; have n0_ := Aside0.mk (below_step (by repeat (first | (with_reducible first | exact HB.out | apply below_alloc | apply pw_below_drewN | apply below_drew1) | exact HB.out)) hb); have n1_ := Aside0.mk (hbox); have n2_ := Aside0.mk ((by rw [hg]; exact (below_size (by repeat (first | (with_reducible first | exact HB.out | apply below_alloc | apply pw_below_drewN | apply below_drew1) | exact HB.out))) : w.heap.size ≤ gb101)); have n3_ := Aside0.mk ((by rw [hg]; exact (below_size (by repeat (first | (with_reducible first | exact HB.out | apply below_alloc | apply pw_below_drewN | apply below_drew1) | exact HB.out))) : w.heap.size ≤ gb101)); clear HB; have HB := n0_; have BK101 := n1_; have GW101 := n2_; have GE101 := n3_; clear n0_ n1_ n2_ n3_; clear hb hbox hg; have hcz31_0 : w30.cell? ⟨gb101, 0, none⟩ = some (.int .i64 a0_0) := (blk_cell BK101.out 0).trans rfl; have hcz31_1 : w30.cell? ⟨gb101, 1, none⟩ = some (.bool false) := (blk_cell BK101.out 1).trans rfl; have hcz31_2 : w30.cell? ⟨gb101, 2, none⟩ = some (.bool a0_2) := (blk_cell BK101.out 2).trans rfl; have hcz31_3 : w30.cell? ⟨gb101, 3, none⟩ = some (.bool true) := (blk_cell BK101.out 3).trans rfl; have hfz31_0 := blk_frozen BK101.out 0; have hfz31_1 := blk_frozen BK101.out 1; have hfz31_2 := blk_frozen BK101.out 2; have hfz31_3 := blk_frozen BK101.out 3) | ((with_reducible refine gate_callee (f := 33) rfl ?_); refine goesL_ (some 8) rfl rfl Tryd.func33 (by kernel_rfl) rfl #[.int .i64 a0_0] rfl (by (try simp only [List.map_toArray, List.map_cons, List.map_nil]); first | done | rfl | (simp only [List.length_drop, List.length_take]; rfl)) ?_; (with_reducible refine (filetype_name.calls a0_0 t102 true _ A2.out).mono ?_); rintro e w32 ⟨rfl, hb⟩; refine ⟨_, rfl, ?_⟩; have n0_ := Aside0.mk (blk_below (g := gb101) (o := .cells #[.int .i64 a0_0, .bool false, .bool a0_2, .bool true] 23 (0, 0)) (by (with_reducible repeat (first | refine blk_drewN ?_ _ | refine blk_drew ?_ | refine blk_alloc ?_ _)); exact BK101.out) hb); have n1_ := Aside0.mk (below_step (by repeat (first | (with_reducible first | exact HB.out | apply below_alloc | apply pw_below_drewN | apply below_drew1 | refine below_set ?_ GE101.out) | exact HB.out)) hb); clear BK101; clear HB; have BK101 := n0_; have HB := n1_; clear n0_ n1_; (try clear hb); (try clear hb2); (try clear hk); (try clear hi); have hcz33_0 : w32.cell? ⟨gb101, 0, none⟩ = some (.int .i64 a0_0) := (blk_cell BK101.out 0).trans rfl; have hcz33_1 : w32.cell? ⟨gb101, 1, none⟩ = some (.bool false) := (blk_cell BK101.out 1).trans rfl; have hcz33_2 : w32.cell? ⟨gb101, 2, none⟩ = some (.bool a0_2) := (blk_cell BK101.out 2).trans rfl; have hcz33_3 : w32.cell? ⟨gb101, 3, none⟩ = some (.bool true) := (blk_cell BK101.out 3).trans rfl; have hfz33_0 := blk_frozen BK101.out 0; have hfz33_1 := blk_frozen BK101.out 1; have hfz33_2 := blk_frozen BK101.out 2; have hfz33_3 := blk_frozen BK101.out 3))
          go_ret
          exact ⟨by first | rfl | (simp [errW_none, errW_some] <;> rfl) | (simp [*, errW_none, errW_some] <;> rfl), by repeat (first | (with_reducible first | exact HB.out | apply below_alloc | apply pw_below_drewN | apply below_drew1 | refine below_set ?_ GE101.out) | exact HB.out)⟩
      · replace c24 := Bool.eq_false_iff.mpr c24
        subst c24
        have H1 : (some 0) = some r := by rw [if_neg (show ¬ (false = true) by decide)] at H; exact H
        clear H
        have H := H1
        clear H1
        obtain rfl := Option.some.inj H
        go_enter Tryd.func15, Tryd.ntmps15
        go_wp2_with (first | ((with_reducible refine gate_dst (N := 1) rfl ?_); refine box_event ?hg (N := 1) ?hd (cs := #[.int .i64 a0_0, .bool false, .bool a0_2, .bool false]) (t := 23) ?hr ?_; (case hd => rfl); (case hg => rfl); (case hr => first | (go_simp; done) | (go_simp; rfl)); intro gb101 hg w34 hbox hb; have n0_ := Aside0.mk (below_step (by repeat (first | (with_reducible first | exact HB.out | apply below_alloc | apply pw_below_drewN | apply below_drew1) | exact HB.out)) hb); have n1_ := Aside0.mk (hbox); have n2_ := Aside0.mk ((by rw [hg]; exact (below_size (by repeat (first | (with_reducible first | exact HB.out | apply below_alloc | apply pw_below_drewN | apply below_drew1) | exact HB.out))) : w.heap.size ≤ gb101)); have n3_ := Aside0.mk ((by rw [hg]; exact (below_size (by repeat (first | (with_reducible first | exact HB.out | apply below_alloc | apply pw_below_drewN | apply below_drew1) | exact HB.out))) : w.heap.size ≤ gb101)); clear HB; have HB := n0_; have BK101 := n1_; have GW101 := n2_; have GE101 := n3_; clear n0_ n1_ n2_ n3_; clear hb hbox hg; have hcz35_0 : w34.cell? ⟨gb101, 0, none⟩ = some (.int .i64 a0_0) := (blk_cell BK101.out 0).trans rfl; have hcz35_1 : w34.cell? ⟨gb101, 1, none⟩ = some (.bool false) := (blk_cell BK101.out 1).trans rfl; have hcz35_2 : w34.cell? ⟨gb101, 2, none⟩ = some (.bool a0_2) := (blk_cell BK101.out 2).trans rfl; have hcz35_3 : w34.cell? ⟨gb101, 3, none⟩ = some (.bool false) := (blk_cell BK101.out 3).trans rfl; have hfz35_0 := blk_frozen BK101.out 0; have hfz35_1 := blk_frozen BK101.out 1; have hfz35_2 := blk_frozen BK101.out 2; have hfz35_3 := blk_frozen BK101.out 3) | ((with_reducible refine gate_callee (f := 33) rfl ?_); refine goesL_ (some 8) rfl rfl Tryd.func33 (by kernel_rfl) rfl #[.int .i64 a0_0] rfl (by (try simp only [List.map_toArray, List.map_cons, List.map_nil]); first | done | rfl | (simp only [List.length_drop, List.length_take]; rfl)) ?_; (with_reducible refine (filetype_name.calls a0_0 t102 true _ A2.out).mono ?_); rintro e w36 ⟨rfl, hb⟩; refine ⟨_, rfl, ?_⟩; have n0_ := Aside0.mk (blk_below (g := gb101) (o := .cells #[.int .i64 a0_0, .bool false, .bool a0_2, .bool false] 23 (0, 0)) (by (with_reducible repeat (first | refine blk_drewN ?_ _ | refine blk_drew ?_ | refine blk_alloc ?_ _)); exact BK101.out) hb); have n1_ := Aside0.mk (below_step (by repeat (first | (with_reducible first | exact HB.out | apply below_alloc | apply pw_below_drewN | apply below_drew1 | refine below_set ?_ GE101.out) | exact HB.out)) hb); clear BK101; clear HB; have BK101 := n0_; have HB := n1_; clear n0_ n1_; (try clear hb); (try clear hb2); (try clear hk); (try clear hi); have hcz37_0 : w36.cell? ⟨gb101, 0, none⟩ = some (.int .i64 a0_0) := (blk_cell BK101.out 0).trans rfl; have hcz37_1 : w36.cell? ⟨gb101, 1, none⟩ = some (.bool false) := (blk_cell BK101.out 1).trans rfl; have hcz37_2 : w36.cell? ⟨gb101, 2, none⟩ = some (.bool a0_2) := (blk_cell BK101.out 2).trans rfl; have hcz37_3 : w36.cell? ⟨gb101, 3, none⟩ = some (.bool false) := (blk_cell BK101.out 3).trans rfl; have hfz37_0 := blk_frozen BK101.out 0; have hfz37_1 := blk_frozen BK101.out 1; have hfz37_2 := blk_frozen BK101.out 2; have hfz37_3 := blk_frozen BK101.out 3))
        go_ret
        exact ⟨by first | rfl | (simp [errW_none, errW_some] <;> rfl) | (simp [*, errW_none, errW_some] <;> rfl), by repeat (first | (with_reducible first | exact HB.out | apply below_alloc | apply pw_below_drewN | apply below_drew1 | refine below_set ?_ GE101.out) | exact HB.out)⟩
  · replace c3 := Bool.eq_false_iff.mpr c3
    subst c3
    have H1 : (some 90) = some r := by rw [if_neg (show ¬ (false = true) by decide)] at H; exact H
    clear H
    have H := H1
    clear H1
    obtain rfl := Option.some.inj H
    go_enter Tryd.func15, Tryd.ntmps15
    go_wp2_with (first | ((with_reducible refine gate_dst (N := 1) rfl ?_); refine box_event ?hg (N := 1) ?hd (cs := #[.int .i64 a0_0, .bool a0_1, .bool a0_2, .bool a0_3]) (t := 23) ?hr ?_; (case hd => rfl); (case hg => rfl); (case hr => first | (go_simp; done) | (go_simp; rfl)); intro gb101 hg w38 hbox hb; have n0_ := Aside0.mk (below_step (by repeat (first | (with_reducible first | exact HB.out | apply below_alloc | apply pw_below_drewN | apply below_drew1) | exact HB.out)) hb); have n1_ := Aside0.mk (hbox); have n2_ := Aside0.mk ((by rw [hg]; exact (below_size (by repeat (first | (with_reducible first | exact HB.out | apply below_alloc | apply pw_below_drewN | apply below_drew1) | exact HB.out))) : w.heap.size ≤ gb101)); have n3_ := Aside0.mk ((by rw [hg]; exact (below_size (by repeat (first | (with_reducible first | exact HB.out | apply below_alloc | apply pw_below_drewN | apply below_drew1) | exact HB.out))) : w.heap.size ≤ gb101)); clear HB; have HB := n0_; have BK101 := n1_; have GW101 := n2_; have GE101 := n3_; clear n0_ n1_ n2_ n3_; clear hb hbox hg; have hcz39_0 : w38.cell? ⟨gb101, 0, none⟩ = some (.int .i64 a0_0) := (blk_cell BK101.out 0).trans rfl; have hcz39_1 : w38.cell? ⟨gb101, 1, none⟩ = some (.bool a0_1) := (blk_cell BK101.out 1).trans rfl; have hcz39_2 : w38.cell? ⟨gb101, 2, none⟩ = some (.bool a0_2) := (blk_cell BK101.out 2).trans rfl; have hcz39_3 : w38.cell? ⟨gb101, 3, none⟩ = some (.bool a0_3) := (blk_cell BK101.out 3).trans rfl; have hfz39_0 := blk_frozen BK101.out 0; have hfz39_1 := blk_frozen BK101.out 1; have hfz39_2 := blk_frozen BK101.out 2; have hfz39_3 := blk_frozen BK101.out 3) | ((with_reducible refine gate_callee (f := 33) rfl ?_); refine goesL_ (some 8) rfl rfl Tryd.func33 (by kernel_rfl) rfl #[.int .i64 a0_0] rfl (by (try simp only [List.map_toArray, List.map_cons, List.map_nil]); first | done | rfl | (simp only [List.length_drop, List.length_take]; rfl)) ?_; (with_reducible refine (filetype_name.calls a0_0 t102 false _ A2.out).mono ?_); rintro e w40 ⟨rfl, hb⟩; refine ⟨_, rfl, ?_⟩; have n0_ := Aside0.mk (blk_below (g := gb101) (o := .cells #[.int .i64 a0_0, .bool a0_1, .bool a0_2, .bool a0_3] 23 (0, 0)) (by (with_reducible repeat (first | refine blk_drewN ?_ _ | refine blk_drew ?_ | refine blk_alloc ?_ _)); exact BK101.out) hb); have n1_ := Aside0.mk (below_step (by repeat (first | (with_reducible first | exact HB.out | apply below_alloc | apply pw_below_drewN | apply below_drew1 | refine below_set ?_ GE101.out) | exact HB.out)) hb); clear BK101; clear HB; have BK101 := n0_; have HB := n1_; clear n0_ n1_; (try clear hb); (try clear hb2); (try clear hk); (try clear hi)))
    go_ret
    exact ⟨by first | rfl | (simp [errW_none, errW_some] <;> rfl) | (simp [*, errW_none, errW_some] <;> rfl), by repeat (first | (with_reducible first | exact HB.out | apply below_alloc | apply pw_below_drewN | apply below_drew1 | refine below_set ?_ GE101.out) | exact HB.out)⟩

-- NOT PRINTED: function 34 (filetype_marks)

/-! ### filetype_Format: function 13: an external -/
set_option maxHeartbeats 8000000 in
set_option maxRecDepth 100000 in
theorem marks_calls (g : Nat) (w : World) : Calls Tryd.prog 34 #[.pointer (some ⟨g, 0, none⟩)] w fun e w' => e = .returned (.agg #[.pointer (some ⟨g, 1, none⟩), .pointer (some ⟨g, 2, none⟩), .pointer (some ⟨g, 3, none⟩)]) ∧ Below w.heap.size w w' := by
  have hu23 := Tryd.underlying23
  have hu54 := Tryd.underlying54
  have hu53 := Tryd.underlying53
  have hu54 := Tryd.underlying54
  go_enter Tryd.func34, Tryd.ntmps34
  go_wp2
  go_region
  go_wp2
  exact bodyPost_ret (v := .agg #[.pointer (some ⟨g, 1, none⟩), .pointer (some ⟨g, 2, none⟩), .pointer (some ⟨g, 3, none⟩)]) (by simp [results, Tryd.results34, go_sem]) rfl ⟨rfl, below_drew1 (below_alloc (Below.refl _ _) _)⟩
theorem run_ptr3 (p q r : Value) (j : Int) (v : Value) (h : j = 0 ∧ v = p ∨ j = 1 ∧ v = q ∨ j = 2 ∧ v = r) (W : World) : (Instr.index 54 (.agg #[p, q, r]) (.int .i64 j)).run Tryd.prog W = .ok v W := by
  have h54 := Tryd.underlying54
  have h53 := Tryd.underlying53
  have hi : (Tryd.prog.info? 53).map (·.size) = some 1 := by kernel_rfl
  obtain ⟨i, hi1, hi2⟩ := Option.map_eq_some_iff.1 hi
  rcases h with ⟨rfl, rfl⟩ | ⟨rfl, rfl⟩ | ⟨rfl, rfl⟩ <;> simp [Instr.index, run_underlying h54, run_underlying h53, sizeOf, typeInfo, hi1, hi2, part, isAgg, asIntOf, go_sem]
def markN (k l x : Bool) (i : Nat) : List Int := (if 0 < i ∧ k = true then [107] else []) ++ (if 1 < i ∧ l = true then [108] else []) ++ (if 2 < i ∧ x = true then [120] else [])
def fmtT (b : Int) (k l x : Bool) : ByteArray := if markN k l x 3 = [] then (nameR b).1 else (nameR b).1 ++ ((⟨#[43]⟩ : ByteArray) ++ strOfNums (markN k l x 3))
def filetype_Format.f (a0 : Int) (a1 a2 a3 : Bool) : Option (ByteArray × Int) := (filetype_Check.f a0 a1 a2 a3).bind fun e => if e = 0 then some (fmtT a0 a1 a2 a3, 0) else some (⟨#[]⟩, e)
theorem nameR_size (b : Int) : (nameR b).1.size ≤ 6 := by
  unfold nameR
  split
  · decide
  · split
    · decide
    · split <;> decide
set_option maxHeartbeats 8000000 in
set_option maxRecDepth 100000 in
theorem filetype_Format.calls (a0 : Int) (a1 a2 a3 : Bool) (r1 : ByteArray) (r2 : Int) (w : World) (h : filetype_Format.f a0 a1 a2 a3 = some (r1, r2)) :
    Calls Tryd.prog 13 #[.agg #[.int .i64 a0, .bool a1, .bool a2, .bool a3]] w fun e w' => e = .returned (.tuple #[.string r1, .int .i64 r2]) ∧ Below w.heap.size w w' := by
  obtain ⟨e, he, h⟩ := Option.bind_eq_some_iff.1 h
  have HE := Aside0.mk he
  clear he
  have hu23 := Tryd.underlying23
  have hu54 := Tryd.underlying54
  have hu53 := Tryd.underlying53
  have hbx : (w.alloc (.cells #[.int .i64 a0, .bool a1, .bool a2, .bool a3] 23)).heap[w.heap.size]? = some (.cells #[.int .i64 a0, .bool a1, .bool a2, .bool a3] 23 (0, 0)) := heap_alloc_new w _
  have hbl : Below w.heap.size w (w.alloc (.cells #[.int .i64 a0, .bool a1, .bool a2, .bool a3] 23)) := below_alloc (Below.refl _ _) _
  have hgl : w.heap.size < (w.alloc (.cells #[.int .i64 a0, .bool a1, .bool a2, .bool a3] 23)).heap.size := by simp
  by_cases h0 : e = 0
  · subst h0
    have h1 := Option.some.inj h
    injection h1 with h1 h2
    subst h1
    subst h2
    clear h
    obtain ⟨nt, nb, hn, hnt⟩ : ∃ t b, filetype_name.f a0 = some (t, b) ∧ t = (nameR a0).1 := ⟨_, _, rfl, rfl⟩
    have HN := Aside0.mk hn
    have HNT := Aside0.mk hnt
    have hns : nt.size ≤ 6 := by rw [hnt]; exact nameR_size a0
    clear hn hnt
    go_enter Tryd.func13, Tryd.ntmps13
    obtain ⟨gb, hgb⟩ : ∃ g, g = w.heap.size := ⟨_, rfl⟩
    rw [← hgb] at hbx hgl
    have BK0 := Aside0.mk hbx
    have HB0 := Aside0.mk hbl
    have HG := Aside0.mk (Nat.le_of_eq hgb.symm)
    clear hbx hbl
    go_wp2_with fail
    simp only [← hgb]
    generalize (w.alloc (.cells #[.int .i64 a0, .bool a1, .bool a2, .bool a3] 23)) = W0 at *
    clear hgb
    have q0_0 : W0.cell? ⟨gb, 0, none⟩ = some (.int .i64 a0) := (blk_cell BK0.out 0).trans rfl; have q0_1 : W0.cell? ⟨gb, 1, none⟩ = some (.bool a1) := (blk_cell BK0.out 1).trans rfl; have q0_2 : W0.cell? ⟨gb, 2, none⟩ = some (.bool a2) := (blk_cell BK0.out 2).trans rfl; have q0_3 : W0.cell? ⟨gb, 3, none⟩ = some (.bool a3) := (blk_cell BK0.out 3).trans rfl
    go_wp2_with (first
      | (go_at_call 15; refine (filetype_Check.calls a0 a1 a2 a3 0 _ HE.out).mono ?_; rintro e w1 ⟨rfl, hb⟩; have BK1 := Aside0.mk (blk_below (g := gb) (o := (.cells #[.int .i64 a0, .bool a1, .bool a2, .bool a3] 23)) (by (with_reducible repeat (first | refine blk_drewN ?_ _ | refine blk_drew ?_ | refine blk_alloc ?_ _)); exact BK0.out) hb); have HB1 := Aside0.mk (below_step HB0.out hb); clear hb; have q1_0 : w1.cell? ⟨gb, 0, none⟩ = some (.int .i64 a0) := (blk_cell BK1.out 0).trans rfl; have q1_1 : w1.cell? ⟨gb, 1, none⟩ = some (.bool a1) := (blk_cell BK1.out 1).trans rfl; have q1_2 : w1.cell? ⟨gb, 2, none⟩ = some (.bool a2) := (blk_cell BK1.out 2).trans rfl; have q1_3 : w1.cell? ⟨gb, 3, none⟩ = some (.bool a3) := (blk_cell BK1.out 3).trans rfl)
      | (go_at_call 33; refine (filetype_name.calls a0 nt nb _ HN.out).mono ?_; rintro e w2 ⟨rfl, hb⟩; have BK2 := Aside0.mk (blk_below (g := gb) (o := (.cells #[.int .i64 a0, .bool a1, .bool a2, .bool a3] 23)) (by (with_reducible repeat (first | refine blk_drewN ?_ _ | refine blk_drew ?_ | refine blk_alloc ?_ _)); exact BK1.out) hb); have HB2 := Aside0.mk (below_step HB1.out hb); clear hb)
      | (go_at_call 34; refine (marks_calls gb _).mono ?_; rintro e w3 ⟨rfl, hb⟩; have BK3 := Aside0.mk (blk_below (g := gb) (o := (.cells #[.int .i64 a0, .bool a1, .bool a2, .bool a3] 23)) (by (with_reducible repeat (first | refine blk_drewN ?_ _ | refine blk_drew ?_ | refine blk_alloc ?_ _)); exact BK2.out) hb); have HB3 := Aside0.mk (below_step HB2.out hb); clear hb))
    (try simp only [Act.put, List.setIfInBounds_toArray, List.set_cons_zero, List.set_cons_succ])
    go_loopg [7, 22] 5 (fun kq v7 v22 w' => ∃ (i : Nat) (xs : List Int), v22 = .int .i64 (i : Int) ∧ Aside0 (4 < kq + i ∧ i ≤ 3) ∧ Aside0 (xs = markN a1 a2 a3 i) ∧ Aside0 (xs.length ≤ i) ∧ Aside0 (Kd.R (Kd.int .u8) 5 w' w.heap.size (fun _ => True) v7 xs) ∧ Aside0 (w'.heap[gb]? = some (.cells #[.int .i64 a0, .bool a1, .bool a2, .bool a3] 23 (0, 0))) ∧ Aside0 (Below w.heap.size w w'))
    case atStart => exact ⟨0, [], rfl, ⟨by omega⟩, ⟨by simp [markN]⟩, ⟨by simp⟩, ⟨Kd.R_nil _ _ _ _ _⟩, BK3, HB3⟩
    case round =>
      clear BK3 HB3 BK2 HB2 BK1 HB1 BK0 HB0 q0_0 q0_1 q0_2 q0_3 q1_0 q1_1 q1_2 q1_3
      obtain ⟨i, xs, rfl, HI, HX, HLn, HR, BK, HB⟩ := hrel
      cases gk with
      | zero => exact absurd HI.out (by omega)
      | succ k2 =>
        have hi := HI.out.2
        have hk := HI.out.1
        clear HI
        obtain rfl | rfl | rfl | rfl : i = 0 ∨ i = 1 ∨ i = 2 ∨ i = 3 := by omega
        · -- the mark number 0
          have q0 : wr.cell? ⟨gb, 1, none⟩ = some (.bool a1) := (blk_cell BK.out 1).trans rfl
          have hix := fun W => run_ptr3 (.pointer (some ⟨gb, 1, none⟩)) (.pointer (some ⟨gb, 2, none⟩)) (.pointer (some ⟨gb, 3, none⟩)) 0 (.pointer (some ⟨gb, 1, none⟩)) (by simp) W
          cases a1 with
          | true =>
            obtain ⟨y, hy⟩ : ∃ y, y = xs ++ [(((⟨#[107, 108, 120]⟩ : ByteArray)[0]'(by decide)).toNat : Int)] := ⟨_, rfl⟩
            have Ny := Aside0.mk hy
            clear hy
            go_wp2_with (first | ((with_reducible refine gate_builtin (b := .append) (xs := #[.tmp 29, .tmp 32]) rfl ?_); at_builtin; refine Kd.R_append (Kd.int .u8) (w0 := w) w.heap.size rfl (.tmp 29) (.tmp 32) 44 5 (.int .u8 0) 1 rfl Tryd.underlying44 info5 rfl (by decide) (by omega) u7 xs (((⟨#[107, 108, 120]⟩ : ByteArray)[0]'(by decide)).toNat : Int) [.int .u8 (((⟨#[107, 108, 120]⟩ : ByteArray)[0]'(by decide)).toNat : Int)] (fun _ => True) (fun _ => False) rfl rfl ?aP (fun _ hk => hk.elim) ?aF ?aO ?aB ?aS ?aL ?_; (case aP => exact rfl); (case aB => exact HB.out); (case aF => exact (fun _ _ => trivial)); (case aO => exact HR.out); (case aS => exact (below_size HB.out)); (case aL => have := HLn.out; omega); intro v8 w8 ho hb hg hat; rw [← Ny.out] at ho; have BK8 := Aside0.mk (blk_grown (g := gb) BK.out hg (Kd.R_ne HR.out BK.out (by decide))); have HB8 := Aside0.mk hb; have HR8 := Aside0.mk ho; clear ho hb hg hat))
            go_roundg k2
            case measure => omega
            case rel => exact ⟨1, y, rfl, ⟨by omega⟩, ⟨by rw [Ny.out, HX.out]; rfl⟩, ⟨by have h_ := HLn.out; rw [Ny.out, List.length_append]; simp only [List.length_cons, List.length_nil]; omega⟩, HR8, BK8, HB8⟩
          | false =>
            go_wp2
            go_roundg k2
            case measure => omega
            case rel => exact ⟨1, xs, rfl, ⟨by omega⟩, ⟨by rw [HX.out]; simp [markN]⟩, ⟨by have := HLn.out; omega⟩, HR, BK, HB⟩
        · -- the mark number 1
          have q0 : wr.cell? ⟨gb, 2, none⟩ = some (.bool a2) := (blk_cell BK.out 2).trans rfl
          have hix := fun W => run_ptr3 (.pointer (some ⟨gb, 1, none⟩)) (.pointer (some ⟨gb, 2, none⟩)) (.pointer (some ⟨gb, 3, none⟩)) 1 (.pointer (some ⟨gb, 2, none⟩)) (by simp) W
          cases a2 with
          | true =>
            obtain ⟨y, hy⟩ : ∃ y, y = xs ++ [(((⟨#[107, 108, 120]⟩ : ByteArray)[1]'(by decide)).toNat : Int)] := ⟨_, rfl⟩
            have Ny := Aside0.mk hy
            clear hy
            go_wp2_with (first | ((with_reducible refine gate_builtin (b := .append) (xs := #[.tmp 29, .tmp 32]) rfl ?_); at_builtin; refine Kd.R_append (Kd.int .u8) (w0 := w) w.heap.size rfl (.tmp 29) (.tmp 32) 44 5 (.int .u8 0) 1 rfl Tryd.underlying44 info5 rfl (by decide) (by omega) u7 xs (((⟨#[107, 108, 120]⟩ : ByteArray)[1]'(by decide)).toNat : Int) [.int .u8 (((⟨#[107, 108, 120]⟩ : ByteArray)[1]'(by decide)).toNat : Int)] (fun _ => True) (fun _ => False) rfl rfl ?aP (fun _ hk => hk.elim) ?aF ?aO ?aB ?aS ?aL ?_; (case aP => exact rfl); (case aB => exact HB.out); (case aF => exact (fun _ _ => trivial)); (case aO => exact HR.out); (case aS => exact (below_size HB.out)); (case aL => have := HLn.out; omega); intro v8 w8 ho hb hg hat; rw [← Ny.out] at ho; have BK8 := Aside0.mk (blk_grown (g := gb) BK.out hg (Kd.R_ne HR.out BK.out (by decide))); have HB8 := Aside0.mk hb; have HR8 := Aside0.mk ho; clear ho hb hg hat))
            go_roundg k2
            case measure => omega
            case rel => exact ⟨2, y, rfl, ⟨by omega⟩, ⟨by rw [Ny.out, HX.out]; cases a1 <;> rfl⟩, ⟨by have h_ := HLn.out; rw [Ny.out, List.length_append]; simp only [List.length_cons, List.length_nil]; omega⟩, HR8, BK8, HB8⟩
          | false =>
            go_wp2
            go_roundg k2
            case measure => omega
            case rel => exact ⟨2, xs, rfl, ⟨by omega⟩, ⟨by rw [HX.out]; simp [markN]⟩, ⟨by have := HLn.out; omega⟩, HR, BK, HB⟩
        · -- the mark number 2
          have q0 : wr.cell? ⟨gb, 3, none⟩ = some (.bool a3) := (blk_cell BK.out 3).trans rfl
          have hix := fun W => run_ptr3 (.pointer (some ⟨gb, 1, none⟩)) (.pointer (some ⟨gb, 2, none⟩)) (.pointer (some ⟨gb, 3, none⟩)) 2 (.pointer (some ⟨gb, 3, none⟩)) (by simp) W
          cases a3 with
          | true =>
            obtain ⟨y, hy⟩ : ∃ y, y = xs ++ [(((⟨#[107, 108, 120]⟩ : ByteArray)[2]'(by decide)).toNat : Int)] := ⟨_, rfl⟩
            have Ny := Aside0.mk hy
            clear hy
            go_wp2_with (first | ((with_reducible refine gate_builtin (b := .append) (xs := #[.tmp 29, .tmp 32]) rfl ?_); at_builtin; refine Kd.R_append (Kd.int .u8) (w0 := w) w.heap.size rfl (.tmp 29) (.tmp 32) 44 5 (.int .u8 0) 1 rfl Tryd.underlying44 info5 rfl (by decide) (by omega) u7 xs (((⟨#[107, 108, 120]⟩ : ByteArray)[2]'(by decide)).toNat : Int) [.int .u8 (((⟨#[107, 108, 120]⟩ : ByteArray)[2]'(by decide)).toNat : Int)] (fun _ => True) (fun _ => False) rfl rfl ?aP (fun _ hk => hk.elim) ?aF ?aO ?aB ?aS ?aL ?_; (case aP => exact rfl); (case aB => exact HB.out); (case aF => exact (fun _ _ => trivial)); (case aO => exact HR.out); (case aS => exact (below_size HB.out)); (case aL => have := HLn.out; omega); intro v8 w8 ho hb hg hat; rw [← Ny.out] at ho; have BK8 := Aside0.mk (blk_grown (g := gb) BK.out hg (Kd.R_ne HR.out BK.out (by decide))); have HB8 := Aside0.mk hb; have HR8 := Aside0.mk ho; clear ho hb hg hat))
            go_roundg k2
            case measure => omega
            case rel => exact ⟨3, y, rfl, ⟨by omega⟩, ⟨by rw [Ny.out, HX.out]; cases a1 <;> cases a2 <;> rfl⟩, ⟨by have h_ := HLn.out; rw [Ny.out, List.length_append]; simp only [List.length_cons, List.length_nil]; omega⟩, HR8, BK8, HB8⟩
          | false =>
            go_wp2
            go_roundg k2
            case measure => omega
            case rel => exact ⟨3, xs, rfl, ⟨by omega⟩, ⟨by rw [HX.out]; simp [markN]⟩, ⟨by have := HLn.out; omega⟩, HR, BK, HB⟩
        · obtain ⟨A, c, hu⟩ := Kd.R_slice HR.out
          subst hu
          have hcv := own_string (dst := 9) Tryd.underlying44 Tryd.underlying5 Tryd.underlying9 (Kd.own_of_R HR.out)
          obtain ⟨st, hst⟩ : ∃ st, st = strOfNums xs := ⟨_, rfl⟩
          have hlx := HLn.out
          have hz : st.size ≤ 3 := by rw [hst, strOfNums_size]; omega
          rw [← hst] at hcv
          have HST := Aside0.mk hst
          clear hst
          have hx3 := HX.out
          have g1 : (9223372036854775807 < 1 + st.size) = False := eq_false (by omega)
          have g2 : (9223372036854775807 < nt.size + (1 + st.size)) = False := eq_false (by omega)
          clear hlx hz hns
          by_cases hne : xs = []
          · subst hne
            have hT : fmtT a0 a1 a2 a3 = nt := by unfold fmtT; rw [if_pos hx3.symm, HNT.out]
            have HT := Aside0.mk hT
            clear hT hx3
            go_wp2
            go_ret2
            rw [HT.out]
            exact ⟨rfl, HB.out⟩
          · have hT : fmtT a0 a1 a2 a3 = nt ++ ((⟨#[43]⟩ : ByteArray) ++ st) := by unfold fmtT; rw [if_neg (by rw [← hx3]; exact hne), HNT.out, HST.out, hx3]
            have HT := Aside0.mk hT
            have hpos : decide ((xs.length : Int) > 0) = true := decide_eq_true (by have := List.length_pos_iff.2 hne; omega)
            have hpos2 : decide ((0 : Int) < (xs.length : Int)) = true := hpos
            have hpos3 : decide (0 < xs.length) = true := decide_eq_true (List.length_pos_iff.2 hne)
            clear hT hx3 hne
            go_wp2
            go_ret2
            rw [HT.out]
            exact ⟨rfl, HB.out⟩
  · have h1 : (⟨#[]⟩ : ByteArray) = r1 ∧ e = r2 := by
      simp only [if_neg h0] at h
      have h := Option.some.inj h
      injection h with h1 h2
      exact ⟨h1, h2⟩
    obtain ⟨rfl, rfl⟩ := h1
    clear h
    have hb0 : (e != 0) = true := bne_iff_ne.2 h0
    clear h0
    go_enter Tryd.func13, Tryd.ntmps13
    have HB0 := Aside0.mk hbl
    have BK0 := Aside0.mk hbx
    clear hbl hbx
    go_wp2_with fail
    generalize (w.alloc (.cells #[.int .i64 a0, .bool a1, .bool a2, .bool a3] 23)) = W0 at *
    have q0 : W0.cell? ⟨w.heap.size, 0, none⟩ = some (.int .i64 a0) := (blk_cell BK0.out 0).trans rfl
    have q1 : W0.cell? ⟨w.heap.size, 1, none⟩ = some (.bool a1) := (blk_cell BK0.out 1).trans rfl
    have q2 : W0.cell? ⟨w.heap.size, 2, none⟩ = some (.bool a2) := (blk_cell BK0.out 2).trans rfl
    have q3 : W0.cell? ⟨w.heap.size, 3, none⟩ = some (.bool a3) := (blk_cell BK0.out 3).trans rfl
    go_wp2_with (first
      | (go_at_call 15; refine (filetype_Check.calls a0 a1 a2 a3 e _ HE.out).mono ?_; rintro e_ w1 ⟨rfl, hb⟩; have HB1 := Aside0.mk (below_step HB0.out hb); clear hb))
    go_ret2
    exact ⟨rfl, HB1.out⟩

/-! ### stockyardref09_Check: function 14 -/
def stockyardref09_Check.f (a0_0 : Int) (a0_1 : Bool) (a0_2 : Bool) (a0_3 : Bool) : Option (Int) := if a0_0 < 1 then (some 90) else (if a0_0 > 3 then (some 90) else (if a0_1 = true then (if a0_0 = 1 then (if a0_3 = true then (if a0_0 = 3 then (some 90) else (some 0)) else (some 0)) else (some 90)) else (if a0_3 = true then (if a0_0 = 3 then (some 90) else (some 0)) else (some 0))))
set_option maxHeartbeats 8000000 in
set_option maxRecDepth 100000 in
theorem stockyardref09_Check.calls (a0_0 : Int) (a0_1 : Bool) (a0_2 : Bool) (a0_3 : Bool) (r : Int) (w : World) (h : stockyardref09_Check.f a0_0 a0_1 a0_2 a0_3 = some r) :
    Calls Tryd.prog 14 #[.agg #[.int .i64 a0_0, .bool a0_1, .bool a0_2, .bool a0_3]] w fun e w' => e = .returned (.int .i64 r) ∧ Below w.heap.size w w' := by
  have hu23 := Tryd.underlying23
  have HB := Aside0.mk (Below.refl w.heap.size w)
  have H : (if a0_0 < 1 then (some 90) else (if a0_0 > 3 then (some 90) else (if a0_1 = true then (if a0_0 = 1 then (if a0_3 = true then (if a0_0 = 3 then (some 90) else (some 0)) else (some 0)) else (some 90)) else (if a0_3 = true then (if a0_0 = 3 then (some 90) else (some 0)) else (some 0))))) = some r := h
  clear h
  by_cases c2 : a0_0 < 1
  · rw [if_pos c2] at H
    have c2b0 : decide (a0_0 < 1) = true := decide_eq_true c2
    clear c2
    obtain rfl := Option.some.inj H
    go_enter Tryd.func14, Tryd.ntmps14
    go_wp2_with (first | ((with_reducible refine gate_dst (N := 1) rfl ?_); refine box_event ?hg (N := 1) ?hd (cs := #[.int .i64 a0_0, .bool a0_1, .bool a0_2, .bool a0_3]) (t := 23) ?hr ?_; (case hd => rfl); (case hg => rfl); (case hr => first | (go_simp; done) | (go_simp; rfl)); intro gb104 hg w3 hbox hb; have n0_ := Aside0.mk (below_step (by repeat (first | (with_reducible first | exact HB.out | apply below_alloc | apply pw_below_drewN | apply below_drew1) | exact HB.out)) hb); have n1_ := Aside0.mk (hbox); have n2_ := Aside0.mk ((by rw [hg]; exact (below_size (by repeat (first | (with_reducible first | exact HB.out | apply below_alloc | apply pw_below_drewN | apply below_drew1) | exact HB.out))) : w.heap.size ≤ gb104)); have n3_ := Aside0.mk ((by rw [hg]; exact (below_size (by repeat (first | (with_reducible first | exact HB.out | apply below_alloc | apply pw_below_drewN | apply below_drew1) | exact HB.out))) : w.heap.size ≤ gb104)); clear HB; have HB := n0_; have BK104 := n1_; have GW104 := n2_; have GE104 := n3_; clear n0_ n1_ n2_ n3_; clear hb hbox hg; have hcz4_0 : w3.cell? ⟨gb104, 0, none⟩ = some (.int .i64 a0_0) := (blk_cell BK104.out 0).trans rfl; have hcz4_1 : w3.cell? ⟨gb104, 1, none⟩ = some (.bool a0_1) := (blk_cell BK104.out 1).trans rfl; have hcz4_2 : w3.cell? ⟨gb104, 2, none⟩ = some (.bool a0_2) := (blk_cell BK104.out 2).trans rfl; have hcz4_3 : w3.cell? ⟨gb104, 3, none⟩ = some (.bool a0_3) := (blk_cell BK104.out 3).trans rfl; have hfz4_0 := blk_frozen BK104.out 0; have hfz4_1 := blk_frozen BK104.out 1; have hfz4_2 := blk_frozen BK104.out 2; have hfz4_3 := blk_frozen BK104.out 3))
    go_ret
    exact ⟨by first | rfl | (simp [errW_none, errW_some] <;> rfl) | (simp [*, errW_none, errW_some] <;> rfl), by repeat (first | (with_reducible first | exact HB.out | apply below_alloc | apply pw_below_drewN | apply below_drew1 | refine below_set ?_ GE104.out) | exact HB.out)⟩
  · rw [if_neg c2] at H
    have c2b0 : decide (a0_0 < 1) = false := decide_eq_false c2
    clear c2
    by_cases c5 : a0_0 > 3
    · rw [if_pos c5] at H
      have c5b0 : decide (3 < a0_0) = true := decide_eq_true c5
      clear c5
      obtain rfl := Option.some.inj H
      go_enter Tryd.func14, Tryd.ntmps14
      go_wp2_with (first | ((with_reducible refine gate_dst (N := 1) rfl ?_); refine box_event ?hg (N := 1) ?hd (cs := #[.int .i64 a0_0, .bool a0_1, .bool a0_2, .bool a0_3]) (t := 23) ?hr ?_; (case hd => rfl); (case hg => rfl); (case hr => first | (go_simp; done) | (go_simp; rfl)); intro gb104 hg w6 hbox hb; have n0_ := Aside0.mk (below_step (by repeat (first | (with_reducible first | exact HB.out | apply below_alloc | apply pw_below_drewN | apply below_drew1) | exact HB.out)) hb); have n1_ := Aside0.mk (hbox); have n2_ := Aside0.mk ((by rw [hg]; exact (below_size (by repeat (first | (with_reducible first | exact HB.out | apply below_alloc | apply pw_below_drewN | apply below_drew1) | exact HB.out))) : w.heap.size ≤ gb104)); have n3_ := Aside0.mk ((by rw [hg]; exact (below_size (by repeat (first | (with_reducible first | exact HB.out | apply below_alloc | apply pw_below_drewN | apply below_drew1) | exact HB.out))) : w.heap.size ≤ gb104)); clear HB; have HB := n0_; have BK104 := n1_; have GW104 := n2_; have GE104 := n3_; clear n0_ n1_ n2_ n3_; clear hb hbox hg; have hcz7_0 : w6.cell? ⟨gb104, 0, none⟩ = some (.int .i64 a0_0) := (blk_cell BK104.out 0).trans rfl; have hcz7_1 : w6.cell? ⟨gb104, 1, none⟩ = some (.bool a0_1) := (blk_cell BK104.out 1).trans rfl; have hcz7_2 : w6.cell? ⟨gb104, 2, none⟩ = some (.bool a0_2) := (blk_cell BK104.out 2).trans rfl; have hcz7_3 : w6.cell? ⟨gb104, 3, none⟩ = some (.bool a0_3) := (blk_cell BK104.out 3).trans rfl; have hfz7_0 := blk_frozen BK104.out 0; have hfz7_1 := blk_frozen BK104.out 1; have hfz7_2 := blk_frozen BK104.out 2; have hfz7_3 := blk_frozen BK104.out 3))
      go_ret
      exact ⟨by first | rfl | (simp [errW_none, errW_some] <;> rfl) | (simp [*, errW_none, errW_some] <;> rfl), by repeat (first | (with_reducible first | exact HB.out | apply below_alloc | apply pw_below_drewN | apply below_drew1 | refine below_set ?_ GE104.out) | exact HB.out)⟩
    · rw [if_neg c5] at H
      have c5b0 : decide (3 < a0_0) = false := decide_eq_false c5
      clear c5
      by_cases c8 : a0_1 = true
      · subst c8
        have H1 : (if a0_0 = 1 then (if a0_3 = true then (if a0_0 = 3 then (some 90) else (some 0)) else (some 0)) else (some 90)) = some r := by rw [if_pos rfl] at H; exact H
        clear H
        have H := H1
        clear H1
        by_cases c9 : a0_0 = 1
        · rw [if_pos c9] at H
          have c9b0 : (a0_0 == 1) = true := beq_iff_eq.mpr c9
          have c9b1 : (a0_0 != 1) = false := bne_eq_false_iff_eq.mpr c9
          clear c9
          by_cases c10 : a0_3 = true
          · subst c10
            have H1 : (if a0_0 = 3 then (some 90) else (some 0)) = some r := by rw [if_pos rfl] at H; exact H
            clear H
            have H := H1
            clear H1
            by_cases c11 : a0_0 = 3
            · rw [if_pos c11] at H
              have c11b0 : (a0_0 == 3) = true := beq_iff_eq.mpr c11
              have c11b1 : (a0_0 != 3) = false := bne_eq_false_iff_eq.mpr c11
              clear c11
              obtain rfl := Option.some.inj H
              go_enter Tryd.func14, Tryd.ntmps14
              go_wp2_with (first | ((with_reducible refine gate_dst (N := 1) rfl ?_); refine box_event ?hg (N := 1) ?hd (cs := #[.int .i64 a0_0, .bool true, .bool a0_2, .bool true]) (t := 23) ?hr ?_; (case hd => rfl); (case hg => rfl); (case hr => first | (go_simp; done) | (go_simp; rfl)); intro gb104 hg w12 hbox hb; have n0_ := Aside0.mk (below_step (by repeat (first | (with_reducible first | exact HB.out | apply below_alloc | apply pw_below_drewN | apply below_drew1) | exact HB.out)) hb); have n1_ := Aside0.mk (hbox); have n2_ := Aside0.mk ((by rw [hg]; exact (below_size (by repeat (first | (with_reducible first | exact HB.out | apply below_alloc | apply pw_below_drewN | apply below_drew1) | exact HB.out))) : w.heap.size ≤ gb104)); have n3_ := Aside0.mk ((by rw [hg]; exact (below_size (by repeat (first | (with_reducible first | exact HB.out | apply below_alloc | apply pw_below_drewN | apply below_drew1) | exact HB.out))) : w.heap.size ≤ gb104)); clear HB; have HB := n0_; have BK104 := n1_; have GW104 := n2_; have GE104 := n3_; clear n0_ n1_ n2_ n3_; clear hb hbox hg; have hcz13_0 : w12.cell? ⟨gb104, 0, none⟩ = some (.int .i64 a0_0) := (blk_cell BK104.out 0).trans rfl; have hcz13_1 : w12.cell? ⟨gb104, 1, none⟩ = some (.bool true) := (blk_cell BK104.out 1).trans rfl; have hcz13_2 : w12.cell? ⟨gb104, 2, none⟩ = some (.bool a0_2) := (blk_cell BK104.out 2).trans rfl; have hcz13_3 : w12.cell? ⟨gb104, 3, none⟩ = some (.bool true) := (blk_cell BK104.out 3).trans rfl; have hfz13_0 := blk_frozen BK104.out 0; have hfz13_1 := blk_frozen BK104.out 1; have hfz13_2 := blk_frozen BK104.out 2; have hfz13_3 := blk_frozen BK104.out 3))
              go_ret
              exact ⟨by first | rfl | (simp [errW_none, errW_some] <;> rfl) | (simp [*, errW_none, errW_some] <;> rfl), by repeat (first | (with_reducible first | exact HB.out | apply below_alloc | apply pw_below_drewN | apply below_drew1 | refine below_set ?_ GE104.out) | exact HB.out)⟩
            · rw [if_neg c11] at H
              have c11b0 : (a0_0 == 3) = false := beq_eq_false_iff_ne.mpr c11
              have c11b1 : (a0_0 != 3) = true := bne_iff_ne.mpr c11
              obtain rfl := Option.some.inj H
              go_enter Tryd.func14, Tryd.ntmps14
              go_wp2_with (first | ((with_reducible refine gate_dst (N := 1) rfl ?_); refine box_event ?hg (N := 1) ?hd (cs := #[.int .i64 a0_0, .bool true, .bool a0_2, .bool true]) (t := 23) ?hr ?_; (case hd => rfl); (case hg => rfl); (case hr => first | (go_simp; done) | (go_simp; rfl)); intro gb104 hg w14 hbox hb; have n0_ := Aside0.mk (below_step (by repeat (first | (with_reducible first | exact HB.out | apply below_alloc | apply pw_below_drewN | apply below_drew1) | exact HB.out)) hb); have n1_ := Aside0.mk (hbox); have n2_ := Aside0.mk ((by rw [hg]; exact (below_size (by repeat (first | (with_reducible first | exact HB.out | apply below_alloc | apply pw_below_drewN | apply below_drew1) | exact HB.out))) : w.heap.size ≤ gb104)); have n3_ := Aside0.mk ((by rw [hg]; exact (below_size (by repeat (first | (with_reducible first | exact HB.out | apply below_alloc | apply pw_below_drewN | apply below_drew1) | exact HB.out))) : w.heap.size ≤ gb104)); clear HB; have HB := n0_; have BK104 := n1_; have GW104 := n2_; have GE104 := n3_; clear n0_ n1_ n2_ n3_; clear hb hbox hg; have hcz15_0 : w14.cell? ⟨gb104, 0, none⟩ = some (.int .i64 a0_0) := (blk_cell BK104.out 0).trans rfl; have hcz15_1 : w14.cell? ⟨gb104, 1, none⟩ = some (.bool true) := (blk_cell BK104.out 1).trans rfl; have hcz15_2 : w14.cell? ⟨gb104, 2, none⟩ = some (.bool a0_2) := (blk_cell BK104.out 2).trans rfl; have hcz15_3 : w14.cell? ⟨gb104, 3, none⟩ = some (.bool true) := (blk_cell BK104.out 3).trans rfl; have hfz15_0 := blk_frozen BK104.out 0; have hfz15_1 := blk_frozen BK104.out 1; have hfz15_2 := blk_frozen BK104.out 2; have hfz15_3 := blk_frozen BK104.out 3))
              go_ret
              exact ⟨by first | rfl | (simp [errW_none, errW_some] <;> rfl) | (simp [*, errW_none, errW_some] <;> rfl), by repeat (first | (with_reducible first | exact HB.out | apply below_alloc | apply pw_below_drewN | apply below_drew1 | refine below_set ?_ GE104.out) | exact HB.out)⟩
          · replace c10 := Bool.eq_false_iff.mpr c10
            subst c10
            have H1 : (some 0) = some r := by rw [if_neg (show ¬ (false = true) by decide)] at H; exact H
            clear H
            have H := H1
            clear H1
            obtain rfl := Option.some.inj H
            go_enter Tryd.func14, Tryd.ntmps14
            go_wp2_with (first | ((with_reducible refine gate_dst (N := 1) rfl ?_); refine box_event ?hg (N := 1) ?hd (cs := #[.int .i64 a0_0, .bool true, .bool a0_2, .bool false]) (t := 23) ?hr ?_; (case hd => rfl); (case hg => rfl); (case hr => first | (go_simp; done) | (go_simp; rfl)); intro gb104 hg w16 hbox hb; have n0_ := Aside0.mk (below_step (by repeat (first | (with_reducible first | exact HB.out | apply below_alloc | apply pw_below_drewN | apply below_drew1) | exact HB.out)) hb); have n1_ := Aside0.mk (hbox); have n2_ := Aside0.mk ((by rw [hg]; exact (below_size (by repeat (first | (with_reducible first | exact HB.out | apply below_alloc | apply pw_below_drewN | apply below_drew1) | exact HB.out))) : w.heap.size ≤ gb104)); have n3_ := Aside0.mk ((by rw [hg]; exact (below_size (by repeat (first | (with_reducible first | exact HB.out | apply below_alloc | apply pw_below_drewN | apply below_drew1) | exact HB.out))) : w.heap.size ≤ gb104)); clear HB; have HB := n0_; have BK104 := n1_; have GW104 := n2_; have GE104 := n3_; clear n0_ n1_ n2_ n3_; clear hb hbox hg; have hcz17_0 : w16.cell? ⟨gb104, 0, none⟩ = some (.int .i64 a0_0) := (blk_cell BK104.out 0).trans rfl; have hcz17_1 : w16.cell? ⟨gb104, 1, none⟩ = some (.bool true) := (blk_cell BK104.out 1).trans rfl; have hcz17_2 : w16.cell? ⟨gb104, 2, none⟩ = some (.bool a0_2) := (blk_cell BK104.out 2).trans rfl; have hcz17_3 : w16.cell? ⟨gb104, 3, none⟩ = some (.bool false) := (blk_cell BK104.out 3).trans rfl; have hfz17_0 := blk_frozen BK104.out 0; have hfz17_1 := blk_frozen BK104.out 1; have hfz17_2 := blk_frozen BK104.out 2; have hfz17_3 := blk_frozen BK104.out 3))
            go_ret
            exact ⟨by first | rfl | (simp [errW_none, errW_some] <;> rfl) | (simp [*, errW_none, errW_some] <;> rfl), by repeat (first | (with_reducible first | exact HB.out | apply below_alloc | apply pw_below_drewN | apply below_drew1 | refine below_set ?_ GE104.out) | exact HB.out)⟩
        · rw [if_neg c9] at H
          have c9b0 : (a0_0 == 1) = false := beq_eq_false_iff_ne.mpr c9
          have c9b1 : (a0_0 != 1) = true := bne_iff_ne.mpr c9
          obtain rfl := Option.some.inj H
          go_enter Tryd.func14, Tryd.ntmps14
          go_wp2_with (first | ((with_reducible refine gate_dst (N := 1) rfl ?_); refine box_event ?hg (N := 1) ?hd (cs := #[.int .i64 a0_0, .bool true, .bool a0_2, .bool a0_3]) (t := 23) ?hr ?_; (case hd => rfl); (case hg => rfl); (case hr => first | (go_simp; done) | (go_simp; rfl)); intro gb104 hg w18 hbox hb; have n0_ := Aside0.mk (below_step (by repeat (first | (with_reducible first | exact HB.out | apply below_alloc | apply pw_below_drewN | apply below_drew1) | exact HB.out)) hb); have n1_ := Aside0.mk (hbox); have n2_ := Aside0.mk ((by rw [hg]; exact (below_size (by repeat (first | (with_reducible first | exact HB.out | apply below_alloc | apply pw_below_drewN | apply below_drew1) | exact HB.out))) : w.heap.size ≤ gb104)); have n3_ := Aside0.mk ((by rw [hg]; exact (below_size (by repeat (first | (with_reducible first | exact HB.out | apply below_alloc | apply pw_below_drewN | apply below_drew1) | exact HB.out))) : w.heap.size ≤ gb104)); clear HB; have HB := n0_; have BK104 := n1_; have GW104 := n2_; have GE104 := n3_; clear n0_ n1_ n2_ n3_; clear hb hbox hg; have hcz19_0 : w18.cell? ⟨gb104, 0, none⟩ = some (.int .i64 a0_0) := (blk_cell BK104.out 0).trans rfl; have hcz19_1 : w18.cell? ⟨gb104, 1, none⟩ = some (.bool true) := (blk_cell BK104.out 1).trans rfl; have hcz19_2 : w18.cell? ⟨gb104, 2, none⟩ = some (.bool a0_2) := (blk_cell BK104.out 2).trans rfl; have hcz19_3 : w18.cell? ⟨gb104, 3, none⟩ = some (.bool a0_3) := (blk_cell BK104.out 3).trans rfl; have hfz19_0 := blk_frozen BK104.out 0; have hfz19_1 := blk_frozen BK104.out 1; have hfz19_2 := blk_frozen BK104.out 2; have hfz19_3 := blk_frozen BK104.out 3))
          go_ret
          exact ⟨by first | rfl | (simp [errW_none, errW_some] <;> rfl) | (simp [*, errW_none, errW_some] <;> rfl), by repeat (first | (with_reducible first | exact HB.out | apply below_alloc | apply pw_below_drewN | apply below_drew1 | refine below_set ?_ GE104.out) | exact HB.out)⟩
      · replace c8 := Bool.eq_false_iff.mpr c8
        subst c8
        have H1 : (if a0_3 = true then (if a0_0 = 3 then (some 90) else (some 0)) else (some 0)) = some r := by rw [if_neg (show ¬ (false = true) by decide)] at H; exact H
        clear H
        have H := H1
        clear H1
        by_cases c20 : a0_3 = true
        · subst c20
          have H1 : (if a0_0 = 3 then (some 90) else (some 0)) = some r := by rw [if_pos rfl] at H; exact H
          clear H
          have H := H1
          clear H1
          by_cases c21 : a0_0 = 3
          · rw [if_pos c21] at H
            have c21b0 : (a0_0 == 3) = true := beq_iff_eq.mpr c21
            have c21b1 : (a0_0 != 3) = false := bne_eq_false_iff_eq.mpr c21
            clear c21
            obtain rfl := Option.some.inj H
            go_enter Tryd.func14, Tryd.ntmps14
            go_wp2_with (first | ((with_reducible refine gate_dst (N := 1) rfl ?_); refine box_event ?hg (N := 1) ?hd (cs := #[.int .i64 a0_0, .bool false, .bool a0_2, .bool true]) (t := 23) ?hr ?_; (case hd => rfl); (case hg => rfl); (case hr => first | (go_simp; done) | (go_simp; rfl)); intro gb104 hg w22 hbox hb; have n0_ := Aside0.mk (below_step (by repeat (first | (with_reducible first | exact HB.out | apply below_alloc | apply pw_below_drewN | apply below_drew1) | exact HB.out)) hb); have n1_ := Aside0.mk (hbox); have n2_ := Aside0.mk ((by rw [hg]; exact (below_size (by repeat (first | (with_reducible first | exact HB.out | apply below_alloc | apply pw_below_drewN | apply below_drew1) | exact HB.out))) : w.heap.size ≤ gb104)); have n3_ := Aside0.mk ((by rw [hg]; exact (below_size (by repeat (first | (with_reducible first | exact HB.out | apply below_alloc | apply pw_below_drewN | apply below_drew1) | exact HB.out))) : w.heap.size ≤ gb104)); clear HB; have HB := n0_; have BK104 := n1_; have GW104 := n2_; have GE104 := n3_; clear n0_ n1_ n2_ n3_; clear hb hbox hg; have hcz23_0 : w22.cell? ⟨gb104, 0, none⟩ = some (.int .i64 a0_0) := (blk_cell BK104.out 0).trans rfl; have hcz23_1 : w22.cell? ⟨gb104, 1, none⟩ = some (.bool false) := (blk_cell BK104.out 1).trans rfl; have hcz23_2 : w22.cell? ⟨gb104, 2, none⟩ = some (.bool a0_2) := (blk_cell BK104.out 2).trans rfl; have hcz23_3 : w22.cell? ⟨gb104, 3, none⟩ = some (.bool true) := (blk_cell BK104.out 3).trans rfl; have hfz23_0 := blk_frozen BK104.out 0; have hfz23_1 := blk_frozen BK104.out 1; have hfz23_2 := blk_frozen BK104.out 2; have hfz23_3 := blk_frozen BK104.out 3))
            go_ret
            exact ⟨by first | rfl | (simp [errW_none, errW_some] <;> rfl) | (simp [*, errW_none, errW_some] <;> rfl), by repeat (first | (with_reducible first | exact HB.out | apply below_alloc | apply pw_below_drewN | apply below_drew1 | refine below_set ?_ GE104.out) | exact HB.out)⟩
          · rw [if_neg c21] at H
            have c21b0 : (a0_0 == 3) = false := beq_eq_false_iff_ne.mpr c21
            have c21b1 : (a0_0 != 3) = true := bne_iff_ne.mpr c21
            obtain rfl := Option.some.inj H
            go_enter Tryd.func14, Tryd.ntmps14
            go_wp2_with (first | ((with_reducible refine gate_dst (N := 1) rfl ?_); refine box_event ?hg (N := 1) ?hd (cs := #[.int .i64 a0_0, .bool false, .bool a0_2, .bool true]) (t := 23) ?hr ?_; (case hd => rfl); (case hg => rfl); (case hr => first | (go_simp; done) | (go_simp; rfl)); intro gb104 hg w24 hbox hb; have n0_ := Aside0.mk (below_step (by repeat (first | (with_reducible first | exact HB.out | apply below_alloc | apply pw_below_drewN | apply below_drew1) | exact HB.out)) hb); have n1_ := Aside0.mk (hbox); have n2_ := Aside0.mk ((by rw [hg]; exact (below_size (by repeat (first | (with_reducible first | exact HB.out | apply below_alloc | apply pw_below_drewN | apply below_drew1) | exact HB.out))) : w.heap.size ≤ gb104)); have n3_ := Aside0.mk ((by rw [hg]; exact (below_size (by repeat (first | (with_reducible first | exact HB.out | apply below_alloc | apply pw_below_drewN | apply below_drew1) | exact HB.out))) : w.heap.size ≤ gb104)); clear HB; have HB := n0_; have BK104 := n1_; have GW104 := n2_; have GE104 := n3_; clear n0_ n1_ n2_ n3_; clear hb hbox hg; have hcz25_0 : w24.cell? ⟨gb104, 0, none⟩ = some (.int .i64 a0_0) := (blk_cell BK104.out 0).trans rfl; have hcz25_1 : w24.cell? ⟨gb104, 1, none⟩ = some (.bool false) := (blk_cell BK104.out 1).trans rfl; have hcz25_2 : w24.cell? ⟨gb104, 2, none⟩ = some (.bool a0_2) := (blk_cell BK104.out 2).trans rfl; have hcz25_3 : w24.cell? ⟨gb104, 3, none⟩ = some (.bool true) := (blk_cell BK104.out 3).trans rfl; have hfz25_0 := blk_frozen BK104.out 0; have hfz25_1 := blk_frozen BK104.out 1; have hfz25_2 := blk_frozen BK104.out 2; have hfz25_3 := blk_frozen BK104.out 3))
            go_ret
            exact ⟨by first | rfl | (simp [errW_none, errW_some] <;> rfl) | (simp [*, errW_none, errW_some] <;> rfl), by repeat (first | (with_reducible first | exact HB.out | apply below_alloc | apply pw_below_drewN | apply below_drew1 | refine below_set ?_ GE104.out) | exact HB.out)⟩
        · replace c20 := Bool.eq_false_iff.mpr c20
          subst c20
          have H1 : (some 0) = some r := by rw [if_neg (show ¬ (false = true) by decide)] at H; exact H
          clear H
          have H := H1
          clear H1
          obtain rfl := Option.some.inj H
          go_enter Tryd.func14, Tryd.ntmps14
          go_wp2_with (first | ((with_reducible refine gate_dst (N := 1) rfl ?_); refine box_event ?hg (N := 1) ?hd (cs := #[.int .i64 a0_0, .bool false, .bool a0_2, .bool false]) (t := 23) ?hr ?_; (case hd => rfl); (case hg => rfl); (case hr => first | (go_simp; done) | (go_simp; rfl)); intro gb104 hg w26 hbox hb; have n0_ := Aside0.mk (below_step (by repeat (first | (with_reducible first | exact HB.out | apply below_alloc | apply pw_below_drewN | apply below_drew1) | exact HB.out)) hb); have n1_ := Aside0.mk (hbox); have n2_ := Aside0.mk ((by rw [hg]; exact (below_size (by repeat (first | (with_reducible first | exact HB.out | apply below_alloc | apply pw_below_drewN | apply below_drew1) | exact HB.out))) : w.heap.size ≤ gb104)); have n3_ := Aside0.mk ((by rw [hg]; exact (below_size (by repeat (first | (with_reducible first | exact HB.out | apply below_alloc | apply pw_below_drewN | apply below_drew1) | exact HB.out))) : w.heap.size ≤ gb104)); clear HB; have HB := n0_; have BK104 := n1_; have GW104 := n2_; have GE104 := n3_; clear n0_ n1_ n2_ n3_; clear hb hbox hg; have hcz27_0 : w26.cell? ⟨gb104, 0, none⟩ = some (.int .i64 a0_0) := (blk_cell BK104.out 0).trans rfl; have hcz27_1 : w26.cell? ⟨gb104, 1, none⟩ = some (.bool false) := (blk_cell BK104.out 1).trans rfl; have hcz27_2 : w26.cell? ⟨gb104, 2, none⟩ = some (.bool a0_2) := (blk_cell BK104.out 2).trans rfl; have hcz27_3 : w26.cell? ⟨gb104, 3, none⟩ = some (.bool false) := (blk_cell BK104.out 3).trans rfl; have hfz27_0 := blk_frozen BK104.out 0; have hfz27_1 := blk_frozen BK104.out 1; have hfz27_2 := blk_frozen BK104.out 2; have hfz27_3 := blk_frozen BK104.out 3))
          go_ret
          exact ⟨by first | rfl | (simp [errW_none, errW_some] <;> rfl) | (simp [*, errW_none, errW_some] <;> rfl), by repeat (first | (with_reducible first | exact HB.out | apply below_alloc | apply pw_below_drewN | apply below_drew1 | refine below_set ?_ GE104.out) | exact HB.out)⟩

/-! ### stringslite_Index: function 60: an external -/
def stringslite_Index.f (a0 : ByteArray) (a1 : ByteArray) : Option (Int) := if a1.size = 1 then some (Lib.indexByte a0.data.toList (bt a1 0).toNat.toUInt8) else none
theorem stringslite_Index.calls (a0 : ByteArray) (a1 : ByteArray) (r : Int) (w : World) (h : stringslite_Index.f a0 a1 = some r) :
    Calls Tryd.prog 60 #[.string a0, .string a1] w fun e w' => e = .returned (.int .i64 r) ∧ Drawn0 w w' := by
  have hs : a1.size = 1 := by
    unfold stringslite_Index.f at h
    split at h
    · assumption
    · cases h
  obtain ⟨c, rfl⟩ : ∃ c, a1 = ⟨#[c]⟩ := by
    obtain ⟨⟨l⟩⟩ := a1
    match l, hs with
    | [c], _ => exact ⟨c, rfl⟩
  unfold stringslite_Index.f at h
  rw [if_pos hs] at h
  obtain rfl := Option.some.inj h
  have hc : (bt (⟨#[c]⟩ : ByteArray) 0).toNat.toUInt8 = c := by
    show ((c.toNat : Int)).toNat.toUInt8 = c
    simp
  rw [hc]
  refine (Tryd.stringslite_Index_one a0 c w).mono ?_
  rintro e w' ⟨rfl, rfl⟩
  exact ⟨rfl, Drawn0.refl _⟩

/-! ### stringslite_Cut: function 49 -/
def stringslite_Cut.f (a0 : ByteArray) (a1 : ByteArray) : Option (ByteArray × ByteArray × Bool) := (stringslite_Index.f a0 a1).bind fun t105 => (if t105 ≥ 0 then (if 0 ≤ t105 then (if t105 ≤ (a0.size : Int) then (if 0 ≤ (wrap64 (t105 + (a1.size : Int))) then (if (wrap64 (t105 + (a1.size : Int))) ≤ (a0.size : Int) then (some (a0.extract 0 (t105 : Int).toNat, a0.extract ((wrap64 (t105 + (a1.size : Int))) : Int).toNat a0.size, true)) else (none)) else (none)) else (none)) else (none)) else (some (a0, (⟨#[]⟩ : ByteArray), false)))
set_option maxHeartbeats 8000000 in
set_option maxRecDepth 100000 in
theorem stringslite_Cut.calls (a0 : ByteArray) (a1 : ByteArray) (r1 : ByteArray) (r2 : ByteArray) (r3 : Bool) (w : World) (h : stringslite_Cut.f a0 a1 = some (r1, r2, r3)) :
    Calls Tryd.prog 49 #[.string a0, .string a1] w fun e w' => e = .returned (.tuple #[.string r1, .string r2, .bool r3]) ∧ Drawn0 w w' := by
  have H : ((stringslite_Index.f a0 a1).bind fun t105 => (if t105 ≥ 0 then (if 0 ≤ t105 then (if t105 ≤ (a0.size : Int) then (if 0 ≤ (wrap64 (t105 + (a1.size : Int))) then (if (wrap64 (t105 + (a1.size : Int))) ≤ (a0.size : Int) then (some (a0.extract 0 (t105 : Int).toNat, a0.extract ((wrap64 (t105 + (a1.size : Int))) : Int).toNat a0.size, true)) else (none)) else (none)) else (none)) else (none)) else (some (a0, (⟨#[]⟩ : ByteArray), false)))) = some (r1, r2, r3) := h
  clear h
  replace H := Option.bind_eq_some_iff.mp H
  obtain ⟨t105, A30, H⟩ := H
  replace H : (if t105 ≥ 0 then (if 0 ≤ t105 then (if t105 ≤ (a0.size : Int) then (if 0 ≤ (wrap64 (t105 + (a1.size : Int))) then (if (wrap64 (t105 + (a1.size : Int))) ≤ (a0.size : Int) then (some (a0.extract 0 (t105 : Int).toNat, a0.extract ((wrap64 (t105 + (a1.size : Int))) : Int).toNat a0.size, true)) else (none)) else (none)) else (none)) else (none)) else (some (a0, (⟨#[]⟩ : ByteArray), false))) = some (r1, r2, r3) := H
  have A3 := Aside0.mk A30
  clear A30
  by_cases c4 : t105 ≥ 0
  · rw [if_pos c4] at H
    have c4b0 : decide (0 ≤ t105) = true := decide_eq_true c4
    clear c4
    by_cases c5 : 0 ≤ t105
    · rw [if_pos c5] at H
      have c5b0 := eq_true c5
      have c5b1 : decide (0 ≤ t105) = true := decide_eq_true c5
      clear c5
      by_cases c6 : t105 ≤ (a0.size : Int)
      · rw [if_pos c6] at H
        have c6b0 := eq_true c6
        have c6b1 : decide (t105 ≤ (a0.size : Int)) = true := decide_eq_true c6
        clear c6
        obtain ⟨ji7, hji7⟩ : ∃ j_ : Int, (wrap64 (t105 + (a1.size : Int))) = j_ := ⟨_, rfl⟩
        replace H : (if 0 ≤ (ji7) then (if (ji7) ≤ (a0.size : Int) then (some (a0.extract 0 (t105 : Int).toNat, a0.extract ((ji7) : Int).toNat a0.size, true)) else (none)) else (none)) = some (r1, r2, r3) := by first | (rw [hji7] at H; exact H) | (simp only [hji7] at H ⊢; exact H)
        (try rw [hji7] at A3)
        have hji7w : (IntKind.i64.wrap (t105 + (a1.size : Int))) = ji7 := (i64_w _).trans hji7
        by_cases c8 : 0 ≤ (ji7)
        · rw [if_pos c8] at H
          have c8b0 := eq_true c8
          have c8b1 : decide (0 ≤ (ji7)) = true := decide_eq_true c8
          clear c8
          by_cases c9 : (ji7) ≤ (a0.size : Int)
          · rw [if_pos c9] at H
            have c9b0 := eq_true c9
            have c9b1 : decide ((ji7) ≤ (a0.size : Int)) = true := decide_eq_true c9
            clear c9
            simp only [Option.some.injEq, Prod.mk.injEq] at H
            obtain ⟨rfl, rfl, rfl⟩ := H
            go_enter Tryd.func49, Tryd.ntmps49
            go_wp2_with (first | (go_at_call 60; (with_reducible refine (stringslite_Index.calls a0 a1 t105 _ A3.out).mono ?_); rintro e w' ⟨rfl, ⟨nd, rfl⟩⟩; (try first | exact ⟨rfl, _, World.drewN_drewN _ _ _⟩ | exact ⟨rfl, _, Eq.trans (World.drewN_drewN _ _ _) (congrArg (World.drewN _) (Nat.add_assoc _ _ _))⟩)))
            repeat (go_quiet (first | (go_at_call 60; (with_reducible refine (stringslite_Index.calls a0 a1 t105 _ A3.out).mono ?_); rintro e w' ⟨rfl, ⟨nd, rfl⟩⟩; (try first | exact ⟨rfl, _, World.drewN_drewN _ _ _⟩ | exact ⟨rfl, _, Eq.trans (World.drewN_drewN _ _ _) (congrArg (World.drewN _) (Nat.add_assoc _ _ _))⟩))); try go_wp2_with (first | (go_at_call 60; (with_reducible refine (stringslite_Index.calls a0 a1 t105 _ A3.out).mono ?_); rintro e w' ⟨rfl, ⟨nd, rfl⟩⟩; (try first | exact ⟨rfl, _, World.drewN_drewN _ _ _⟩ | exact ⟨rfl, _, Eq.trans (World.drewN_drewN _ _ _) (congrArg (World.drewN _) (Nat.add_assoc _ _ _))⟩))))
            go_ret3
            exact ⟨by first | rfl | (simp; done) | (simp only [← hji7] <;> (first | rfl | simp)) | (simp [*]; done), by repeat (first | exact Drawn0.refl _ | apply Drawn0.step)⟩
          · rw [if_neg c9] at H
            exact absurd H (by simp)
        · rw [if_neg c8] at H
          exact absurd H (by simp)
      · rw [if_neg c6] at H
        exact absurd H (by simp)
    · rw [if_neg c5] at H
      exact absurd H (by simp)
  · rw [if_neg c4] at H
    have c4b0 : decide (0 ≤ t105) = false := decide_eq_false c4
    clear c4
    simp only [Option.some.injEq, Prod.mk.injEq] at H
    obtain ⟨rfl, rfl, rfl⟩ := H
    go_enter Tryd.func49, Tryd.ntmps49
    go_wp2_with (first | (go_at_call 60; (with_reducible refine (stringslite_Index.calls a0 a1 t105 _ A3.out).mono ?_); rintro e w' ⟨rfl, ⟨nd, rfl⟩⟩; (try first | exact ⟨rfl, _, World.drewN_drewN _ _ _⟩ | exact ⟨rfl, _, Eq.trans (World.drewN_drewN _ _ _) (congrArg (World.drewN _) (Nat.add_assoc _ _ _))⟩)))
    repeat (go_quiet (first | (go_at_call 60; (with_reducible refine (stringslite_Index.calls a0 a1 t105 _ A3.out).mono ?_); rintro e w' ⟨rfl, ⟨nd, rfl⟩⟩; (try first | exact ⟨rfl, _, World.drewN_drewN _ _ _⟩ | exact ⟨rfl, _, Eq.trans (World.drewN_drewN _ _ _) (congrArg (World.drewN _) (Nat.add_assoc _ _ _))⟩))); try go_wp2_with (first | (go_at_call 60; (with_reducible refine (stringslite_Index.calls a0 a1 t105 _ A3.out).mono ?_); rintro e w' ⟨rfl, ⟨nd, rfl⟩⟩; (try first | exact ⟨rfl, _, World.drewN_drewN _ _ _⟩ | exact ⟨rfl, _, Eq.trans (World.drewN_drewN _ _ _) (congrArg (World.drewN _) (Nat.add_assoc _ _ _))⟩))))
    go_ret3
    exact ⟨by first | rfl | (simp; done) | (simp [*]; done), by repeat (first | exact Drawn0.refl _ | apply Drawn0.step)⟩

/-! ### strings_Cut: function 35 -/
def strings_Cut.f (a0 : ByteArray) (a1 : ByteArray) : Option (ByteArray × ByteArray × Bool) := (stringslite_Cut.f a0 a1).bind fun bt106 => (some (bt106.1, bt106.2.1, bt106.2.2))
set_option maxHeartbeats 8000000 in
set_option maxRecDepth 100000 in
theorem strings_Cut.calls (a0 : ByteArray) (a1 : ByteArray) (r1 : ByteArray) (r2 : ByteArray) (r3 : Bool) (w : World) (h : strings_Cut.f a0 a1 = some (r1, r2, r3)) :
    Calls Tryd.prog 35 #[.string a0, .string a1] w fun e w' => e = .returned (.tuple #[.string r1, .string r2, .bool r3]) ∧ Drawn0 w w' := by
  have H : ((stringslite_Cut.f a0 a1).bind fun bt106 => (some (bt106.1, bt106.2.1, bt106.2.2))) = some (r1, r2, r3) := h
  clear h
  replace H := Option.bind_eq_some_iff.mp H
  obtain ⟨⟨t106, t107, t108⟩, A30, H⟩ := H
  replace H : (some (t106, t107, t108)) = some (r1, r2, r3) := H
  have A3 := Aside0.mk A30
  clear A30
  simp only [Option.some.injEq, Prod.mk.injEq] at H
  obtain ⟨rfl, rfl, rfl⟩ := H
  go_enter Tryd.func35, Tryd.ntmps35
  go_wp2_with (first | ((with_reducible refine gate_callee (f := 49) rfl ?_); refine goesL_ (some 9) rfl rfl Tryd.func49 (by kernel_rfl) rfl #[.string a0, .string a1] rfl (by (try simp only [List.map_toArray, List.map_cons, List.map_nil]); first | done | rfl | (simp only [List.length_drop, List.length_take]; rfl)) ?_; (with_reducible refine (stringslite_Cut.calls a0 a1 t106 t107 t108 _ A3.out).mono ?_); rintro e w' ⟨rfl, ⟨nd, rfl⟩⟩; refine ⟨_, rfl, ?_⟩))
  go_ret3
  exact ⟨by first | rfl | (simp; done) | (simp [*]; done), by repeat (first | exact Drawn0.refl _ | apply Drawn0.step)⟩

/-! ### strings_IndexByte: function 37: an external -/
def strings_IndexByte.f (a0 : ByteArray) (a1 : Int) : Option (Int) := some (Lib.indexByte a0.data.toList a1.toNat.toUInt8)
theorem strings_IndexByte.calls (a0 : ByteArray) (a1 : Int) (r : Int) (w : World) (h : strings_IndexByte.f a0 a1 = some r) :
    Calls Tryd.prog 37 #[.string a0, .int .u8 a1] w fun e w' => e = .returned (.int .i64 r) ∧ Drawn0 w w' := by
  obtain rfl := Option.some.inj h
  refine (Tryd.strings_IndexByte a0 a1 w).mono ?_
  rintro e w' ⟨rfl, rfl⟩
  exact ⟨rfl, Drawn0.refl _⟩

/-! ### filetype_Parse: function 18: an external -/
theorem ba_ne (a b : ByteArray) (h : a ≠ b) : (a == b) = false := by
  obtain ⟨a⟩ := a
  obtain ⟨b⟩ := b
  have : a ≠ b := fun e => h (by rw [e])
  have h2 : (a == b) = false := beq_eq_false_iff_ne.2 this
  exact h2
def baseOf (s : ByteArray) : Int := if s = ⟨#[116, 101, 120, 116]⟩ then 1 else if s = ⟨#[98, 105, 110, 97, 114, 121]⟩ then 2 else if s = ⟨#[108, 105, 110, 107]⟩ then 3 else 0
theorem run_lookup3 (s : ByteArray) (g : Nat) (W : World) (h : W.heap[g]? = some (.map es3 3)) : (Instr.lookup 59 (.map (some g)) (.string s) false).run Tryd.prog W = .ok (.int .i64 (baseOf s)) W := by
  have hm := Tryd.underlying59
  have hk := Tryd.underlying9
  have hi : (Tryd.prog.info? 3).map (·.zero) = some (some (.int .i64 0)) := by kernel_rfl
  obtain ⟨i, hi1, hi2⟩ := Option.map_eq_some_iff.1 hi
  have hc : ∀ b, (Instr.checkKey b 10000 9 (.string s)).run Tryd.prog W = .ok () W := fun b => MapKept.run_checkKey (k := .string s) hk (by simp [MapKept.IsKey]) b 9999
  have hf : ∃ a, Instr.findNow .string (.string s) es3.toList 0 = some a ∧ (match a with | some (_, v) => v = .int .i64 (baseOf s) | none => baseOf s = 0) := by
    unfold baseOf es3
    by_cases h1 : s = ⟨#[116, 101, 120, 116]⟩
    · exact ⟨_, by simp [Instr.findNow, Instr.sameNow, h1]; rfl, by simp [h1]⟩
    · by_cases h2 : s = ⟨#[98, 105, 110, 97, 114, 121]⟩
      · exact ⟨_, by simp [Instr.findNow, Instr.sameNow, h1, h2]; rfl, by simp [h1, h2]⟩
      · by_cases h3 : s = ⟨#[108, 105, 110, 107]⟩
        · exact ⟨_, by simp [Instr.findNow, Instr.sameNow, h1, h2, h3]; rfl, by simp [h1, h2, h3]⟩
        · have e1 : (s == (⟨#[116, 101, 120, 116]⟩ : ByteArray)) = false := ba_ne _ _ h1
          have e2 : (s == (⟨#[98, 105, 110, 97, 114, 121]⟩ : ByteArray)) = false := ba_ne _ _ h2
          have e3 : (s == (⟨#[108, 105, 110, 107]⟩ : ByteArray)) = false := ba_ne _ _ h3
          exact ⟨none, by simp only [Instr.findNow, Instr.sameNow, e1, e2, e3], by simp [h1, h2, h3]⟩
  obtain ⟨a, hf, ha⟩ := hf
  have hf2 := MapKept.run_findKey (w := W) hk hf
  cases a with
  | none =>
    dsimp only at ha
    simp [Instr.lookup, run_underlying hm, MapKept.run_getObj_map h, hc, hf2, zeroValue, typeInfo, hi1, hi2, Result.andThen, ha, go_sem]
  | some a =>
    obtain ⟨j, v⟩ := a
    dsimp only at ha
    subst ha
    simp [Instr.lookup, run_underlying hm, MapKept.run_getObj_map h, hc, hf2, Result.andThen, go_sem]
def cellsP (b i0 i1 i2 : Int) (i : Nat) : Array Value := #[.int .i64 b, .bool (if 0 < i then decide (0 ≤ i0) else false), .bool (if 1 < i then decide (0 ≤ i1) else false), .bool (if 2 < i then decide (0 ≤ i2) else false)]
def parseV (s : ByteArray) (b : Int) (k l x : Bool) (r : ByteArray × Int) : Int × Bool × Bool × Bool × Int := if r.2 = 0 ∧ r.1.toList = s.toList then (b, k, l, x, 0) else (0, false, false, false, 90)
def filetype_Parse.f (a0 : ByteArray) : Option (Int × Bool × Bool × Bool × Int) :=
  (strings_Cut.f a0 ⟨#[43]⟩).bind fun c => (strings_IndexByte.f c.2.1 107).bind fun i0 => (strings_IndexByte.f c.2.1 108).bind fun i1 => (strings_IndexByte.f c.2.1 120).bind fun i2 =>
    (filetype_Format.f (baseOf c.1) (decide (0 ≤ i0)) (decide (0 ≤ i1)) (decide (0 ≤ i2))).bind fun r => some (parseV a0 (baseOf c.1) (decide (0 ≤ i0)) (decide (0 ≤ i1)) (decide (0 ≤ i2)) r)
set_option maxHeartbeats 8000000 in
set_option maxRecDepth 100000 in
theorem filetype_Parse.calls (a0 : ByteArray) (r1 : Int) (r2 r3 r4 : Bool) (r5 : Int) (w : World) (h : filetype_Parse.f a0 = some (r1, r2, r3, r4, r5)) :
    Calls Tryd.prog 18 #[.string a0] w fun e w' => e = .returned (.tuple #[.agg #[.int .i64 r1, .bool r2, .bool r3, .bool r4], .int .i64 r5]) ∧ Below w.heap.size w w' := by
  unfold filetype_Parse.f at h
  obtain ⟨⟨wd, st, fd⟩, hcut, h⟩ := Option.bind_eq_some_iff.1 h
  obtain ⟨i0, h0, h⟩ := Option.bind_eq_some_iff.1 h
  obtain ⟨i1, h1, h⟩ := Option.bind_eq_some_iff.1 h
  obtain ⟨i2, h2, h⟩ := Option.bind_eq_some_iff.1 h
  obtain ⟨⟨ag, er⟩, hfm, h⟩ := Option.bind_eq_some_iff.1 h
  have h := Option.some.inj h
  dsimp only at h h0 h1 h2 hfm
  have HC := Aside0.mk hcut
  have H0 := Aside0.mk h0
  have H1 := Aside0.mk h1
  have H2 := Aside0.mk h2
  have HF := Aside0.mk hfm
  have HR := Aside0.mk h
  clear hcut h0 h1 h2 hfm h
  have hu_s := Tryd.underlying23
  have hu_a := Tryd.underlying54
  have HB := Aside0.mk (Below.refl w.heap.size w)
  go_enter Tryd.func18, Tryd.ntmps18
  obtain ⟨g0, hg0⟩ : ∃ g, g = w.heap.size := ⟨_, rfl⟩
  have HG := Aside0.mk hg0
  have hbx : (w.alloc (.cells #[.int .i64 0, .bool false, .bool false, .bool false] 23)).heap[g0]? = some (.cells #[.int .i64 0, .bool false, .bool false, .bool false] 23 (0, 0)) := by rw [hg0]; exact heap_alloc_new w _
  have hbl : Below w.heap.size w (w.alloc (.cells #[.int .i64 0, .bool false, .bool false, .bool false] 23)) := below_alloc (Below.refl _ _) _
  have BR0 := Aside0.mk hbx
  have HB0 := Aside0.mk hbl
  clear hbx hbl HB
  go_wp2_with fail
  simp only [← hg0]
  generalize (w.alloc (.cells #[.int .i64 0, .bool false, .bool false, .bool false] 23)) = W0 at *
  clear hg0
  go_wp2_with (first
    | (go_at_call 35; refine (strings_Cut.calls a0 ⟨#[43]⟩ wd st fd _ HC.out).mono ?_; rintro e w' ⟨rfl, ⟨nd, rfl⟩⟩)
    | (go_at_call 36; refine (bases_calls _).mono ?_; rintro e w2 ⟨g, rfl, hg1, hg2, hg3⟩; have BR2 := Aside0.mk (blk_below (g := g0) (o := (.cells #[.int .i64 0, .bool false, .bool false, .bool false] 23)) (by (with_reducible repeat (first | refine blk_drewN ?_ _ | refine blk_drew ?_ | refine blk_alloc ?_ _)); exact BR0.out) hg3); have HB2 := Aside0.mk (below_step (by repeat (first | (with_reducible first | exact HB0.out | apply below_alloc | apply pw_below_drewN | apply below_drew1) | exact HB0.out)) hg3); have hlk := run_lookup3 wd g w2 hg1; clear hg1 hg2 hg3)
    | (go_at_call 34; go_loud (refine (marks_calls _ _).mono ?_; rintro e w3 ⟨rfl, hb⟩; have hgb := hb; have BK3 := Aside0.mk (blk_below (g := w2.heap.size) (heap_alloc_new w2 (.cells #[.int .i64 (baseOf wd), .bool false, .bool false, .bool false] 23)) hb); have BR3 := Aside0.mk (blk_below (g := g0) (o := (.cells #[.int .i64 0, .bool false, .bool false, .bool false] 23)) (by (with_reducible repeat (first | refine blk_drewN ?_ _ | refine blk_drew ?_ | refine blk_alloc ?_ _)); exact BR2.out) hb); have HB3 := Aside0.mk (below_step (by repeat (first | (with_reducible first | exact HB2.out | apply below_alloc | apply pw_below_drewN | apply below_drew1) | exact HB2.out)) hb); clear hb hgb)))
  have hne : g0 ≠ w2.heap.size := by have := blk_lt BR2.out; omega
  have hle : w.heap.size ≤ w2.heap.size := HB2.out.size
  have hle0 : w.heap.size ≤ g0 := Nat.le_of_eq HG.out.symm
  have HNE := Aside0.mk hne
  have HLE := Aside0.mk hle
  have HLE0 := Aside0.mk hle0
  clear hlk hne hle hle0
  (try simp only [Act.put, List.setIfInBounds_toArray, List.set_cons_zero, List.set_cons_succ])
  generalize w2.heap.size = gb at *
  go_loopg [23] 5 (fun kq v23 w' => ∃ (i : Nat), v23 = .int .i64 (i : Int) ∧ Aside0 (4 < kq + i ∧ i ≤ 3) ∧ Aside0 (w'.heap[gb]? = some (.cells (cellsP (baseOf wd) i0 i1 i2 i) 23 (0, 0))) ∧ Aside0 (w'.heap[g0]? = some (.cells #[.int .i64 0, .bool false, .bool false, .bool false] 23 (0, 0))) ∧ Aside0 (Below w.heap.size w w'))
  case atStart => exact ⟨0, rfl, ⟨by omega⟩, BK3, BR3, HB3⟩
  case round =>
    clear BK3 BR3 HB3 BR2 HB2 BR0 HB0
    obtain ⟨i, rfl, HI, BK, BR, HB⟩ := hrel
    cases gk with
    | zero => exact absurd HI.out (by omega)
    | succ k2 =>
      have hi := HI.out.2
      have hk := HI.out.1
      clear HI
      obtain rfl | rfl | rfl | rfl : i = 0 ∨ i = 1 ∨ i = 2 ∨ i = 3 := by omega
      · have q0 : wr.cell? ⟨gb, 1, none⟩ = some (.bool false) := (blk_cell BK.out 1).trans rfl
        have f0 := blk_frozen BK.out 1
        have hix := fun W => run_ptr3 (.pointer (some ⟨gb, 1, none⟩)) (.pointer (some ⟨gb, 2, none⟩)) (.pointer (some ⟨gb, 3, none⟩)) 0 (.pointer (some ⟨gb, 1, none⟩)) (by simp) W
        go_wp2_with (first
          | (go_at_call 37; refine (strings_IndexByte.calls st (((⟨#[107, 108, 120]⟩ : ByteArray)[0]'(by decide)).toNat : Int) i0 _ (show strings_IndexByte.f st (((⟨#[107, 108, 120]⟩ : ByteArray)[0]'(by decide)).toNat : Int) = some i0 from H0.out)).mono ?_; rintro e w' ⟨rfl, ⟨nd, rfl⟩⟩))
        go_roundg k2
        case measure => omega
        case rel => exact ⟨1, rfl, ⟨by omega⟩, ⟨(blk_set (blk_drewN BK.out _) 1 _).trans rfl⟩, ⟨blk_far (blk_drewN BR.out _) HNE.out _⟩, ⟨below_set (pw_below_drewN HB.out _) HLE.out⟩⟩
      · have q0 : wr.cell? ⟨gb, 2, none⟩ = some (.bool false) := (blk_cell BK.out 2).trans rfl
        have f0 := blk_frozen BK.out 2
        have hix := fun W => run_ptr3 (.pointer (some ⟨gb, 1, none⟩)) (.pointer (some ⟨gb, 2, none⟩)) (.pointer (some ⟨gb, 3, none⟩)) 1 (.pointer (some ⟨gb, 2, none⟩)) (by simp) W
        go_wp2_with (first
          | (go_at_call 37; refine (strings_IndexByte.calls st (((⟨#[107, 108, 120]⟩ : ByteArray)[1]'(by decide)).toNat : Int) i1 _ (show strings_IndexByte.f st (((⟨#[107, 108, 120]⟩ : ByteArray)[1]'(by decide)).toNat : Int) = some i1 from H1.out)).mono ?_; rintro e w' ⟨rfl, ⟨nd, rfl⟩⟩))
        go_roundg k2
        case measure => omega
        case rel => exact ⟨2, rfl, ⟨by omega⟩, ⟨(blk_set (blk_drewN BK.out _) 2 _).trans rfl⟩, ⟨blk_far (blk_drewN BR.out _) HNE.out _⟩, ⟨below_set (pw_below_drewN HB.out _) HLE.out⟩⟩
      · have q0 : wr.cell? ⟨gb, 3, none⟩ = some (.bool false) := (blk_cell BK.out 3).trans rfl
        have f0 := blk_frozen BK.out 3
        have hix := fun W => run_ptr3 (.pointer (some ⟨gb, 1, none⟩)) (.pointer (some ⟨gb, 2, none⟩)) (.pointer (some ⟨gb, 3, none⟩)) 2 (.pointer (some ⟨gb, 3, none⟩)) (by simp) W
        go_wp2_with (first
          | (go_at_call 37; refine (strings_IndexByte.calls st (((⟨#[107, 108, 120]⟩ : ByteArray)[2]'(by decide)).toNat : Int) i2 _ (show strings_IndexByte.f st (((⟨#[107, 108, 120]⟩ : ByteArray)[2]'(by decide)).toNat : Int) = some i2 from H2.out)).mono ?_; rintro e w' ⟨rfl, ⟨nd, rfl⟩⟩))
        go_roundg k2
        case measure => omega
        case rel => exact ⟨3, rfl, ⟨by omega⟩, ⟨(blk_set (blk_drewN BK.out _) 3 _).trans rfl⟩, ⟨blk_far (blk_drewN BR.out _) HNE.out _⟩, ⟨below_set (pw_below_drewN HB.out _) HLE.out⟩⟩
      · have hcs : cellsP (baseOf wd) i0 i1 i2 3 = #[.int .i64 (baseOf wd), .bool (decide (0 ≤ i0)), .bool (decide (0 ≤ i1)), .bool (decide (0 ≤ i2))] := rfl
        rw [hcs] at BK
        clear hcs
        generalize decide (0 ≤ i0) = k at *
        generalize decide (0 ≤ i1) = l at *
        generalize decide (0 ≤ i2) = x at *
        have q0 : wr.cell? ⟨gb, 0, none⟩ = some (.int .i64 (baseOf wd)) := (blk_cell BK.out 0).trans rfl
        have q1 : wr.cell? ⟨gb, 1, none⟩ = some (.bool k) := (blk_cell BK.out 1).trans rfl
        have q2 : wr.cell? ⟨gb, 2, none⟩ = some (.bool l) := (blk_cell BK.out 2).trans rfl
        have q3 : wr.cell? ⟨gb, 3, none⟩ = some (.bool x) := (blk_cell BK.out 3).trans rfl
        have HV : Aside0 (parseV a0 (baseOf wd) k l x (ag, er) = (r1, r2, r3, r4, r5)) := HR
        have HF2 : Aside0 (filetype_Format.f (baseOf wd) k l x = some (ag, er)) := HF
        clear HR HF
        generalize baseOf wd = bs at *
        by_cases her : er = 0
        · subst her
          by_cases hs : ag.toList = a0.toList
          · go_wp2_with (first
              | (go_at_call 13; go_loud (refine (filetype_Format.calls bs k l x ag _ _ HF2.out).mono ?_; rintro e w9 ⟨rfl, hb⟩; have BK9 := Aside0.mk (blk_below (g := gb) (o := (.cells #[.int .i64 bs, .bool k, .bool l, .bool x] 23)) (by (with_reducible repeat (first | refine blk_drewN ?_ _ | refine blk_drew ?_ | refine blk_alloc ?_ _)); exact BK.out) hb); have BR9 := Aside0.mk (blk_below (g := g0) (o := (.cells #[.int .i64 0, .bool false, .bool false, .bool false] 23)) (by (with_reducible repeat (first | refine blk_drewN ?_ _ | refine blk_drew ?_ | refine blk_alloc ?_ _)); exact BR.out) hb); have HB9 := Aside0.mk (below_step (by repeat (first | (with_reducible first | exact HB.out | apply below_alloc | apply pw_below_drewN | apply below_drew1) | exact HB.out)) hb); clear hb; have z0 : w9.cell? ⟨g0, 0, none⟩ = some (.int .i64 0) := (blk_cell BR9.out 0).trans rfl; have y0 : w9.frozen? ⟨g0, 0, none⟩ = false := blk_frozen BR9.out 0; have z1 : (w9.setCell ⟨g0, 0, none⟩ (.int .i64 bs)).cell? ⟨g0, 1, none⟩ = some (.bool false) := (blk_cell (blk_set BR9.out 0 (.int .i64 bs)) 1).trans rfl; have y1 : (w9.setCell ⟨g0, 0, none⟩ (.int .i64 bs)).frozen? ⟨g0, 1, none⟩ = false := blk_frozen (blk_set BR9.out 0 (.int .i64 bs)) 1; have z2 : ((w9.setCell ⟨g0, 0, none⟩ (.int .i64 bs)).setCell ⟨g0, 1, none⟩ (.bool k)).cell? ⟨g0, 2, none⟩ = some (.bool false) := (blk_cell (blk_set (blk_set BR9.out 0 (.int .i64 bs)) 1 (.bool k)) 2).trans rfl; have y2 : ((w9.setCell ⟨g0, 0, none⟩ (.int .i64 bs)).setCell ⟨g0, 1, none⟩ (.bool k)).frozen? ⟨g0, 2, none⟩ = false := blk_frozen (blk_set (blk_set BR9.out 0 (.int .i64 bs)) 1 (.bool k)) 2; have z3 : (((w9.setCell ⟨g0, 0, none⟩ (.int .i64 bs)).setCell ⟨g0, 1, none⟩ (.bool k)).setCell ⟨g0, 2, none⟩ (.bool l)).cell? ⟨g0, 3, none⟩ = some (.bool false) := (blk_cell (blk_set (blk_set (blk_set BR9.out 0 (.int .i64 bs)) 1 (.bool k)) 2 (.bool l)) 3).trans rfl; have y3 : (((w9.setCell ⟨g0, 0, none⟩ (.int .i64 bs)).setCell ⟨g0, 1, none⟩ (.bool k)).setCell ⟨g0, 2, none⟩ (.bool l)).frozen? ⟨g0, 3, none⟩ = false := blk_frozen (blk_set (blk_set (blk_set BR9.out 0 (.int .i64 bs)) 1 (.bool k)) 2 (.bool l)) 3; have x0 : ((((w9.setCell ⟨g0, 0, none⟩ (.int .i64 bs)).setCell ⟨g0, 1, none⟩ (.bool k)).setCell ⟨g0, 2, none⟩ (.bool l)).setCell ⟨g0, 3, none⟩ (.bool x)).cell? ⟨g0, 0, none⟩ = some (.int .i64 bs) := (blk_cell (blk_set (blk_set (blk_set (blk_set BR9.out 0 (.int .i64 bs)) 1 (.bool k)) 2 (.bool l)) 3 (.bool x)) 0).trans rfl; have e0 : w9.cell? ⟨gb, 0, none⟩ = some (.int .i64 bs) := (blk_cell BK9.out 0).trans rfl; have x1 : ((((w9.setCell ⟨g0, 0, none⟩ (.int .i64 bs)).setCell ⟨g0, 1, none⟩ (.bool k)).setCell ⟨g0, 2, none⟩ (.bool l)).setCell ⟨g0, 3, none⟩ (.bool x)).cell? ⟨g0, 1, none⟩ = some (.bool k) := (blk_cell (blk_set (blk_set (blk_set (blk_set BR9.out 0 (.int .i64 bs)) 1 (.bool k)) 2 (.bool l)) 3 (.bool x)) 1).trans rfl; have e1 : w9.cell? ⟨gb, 1, none⟩ = some (.bool k) := (blk_cell BK9.out 1).trans rfl; have x2 : ((((w9.setCell ⟨g0, 0, none⟩ (.int .i64 bs)).setCell ⟨g0, 1, none⟩ (.bool k)).setCell ⟨g0, 2, none⟩ (.bool l)).setCell ⟨g0, 3, none⟩ (.bool x)).cell? ⟨g0, 2, none⟩ = some (.bool l) := (blk_cell (blk_set (blk_set (blk_set (blk_set BR9.out 0 (.int .i64 bs)) 1 (.bool k)) 2 (.bool l)) 3 (.bool x)) 2).trans rfl; have e2 : w9.cell? ⟨gb, 2, none⟩ = some (.bool l) := (blk_cell BK9.out 2).trans rfl; have x3 : ((((w9.setCell ⟨g0, 0, none⟩ (.int .i64 bs)).setCell ⟨g0, 1, none⟩ (.bool k)).setCell ⟨g0, 2, none⟩ (.bool l)).setCell ⟨g0, 3, none⟩ (.bool x)).cell? ⟨g0, 3, none⟩ = some (.bool x) := (blk_cell (blk_set (blk_set (blk_set (blk_set BR9.out 0 (.int .i64 bs)) 1 (.bool k)) 2 (.bool l)) 3 (.bool x)) 3).trans rfl; have e3 : w9.cell? ⟨gb, 3, none⟩ = some (.bool x) := (blk_cell BK9.out 3).trans rfl; have t1 : w9.cell? ⟨g0, 1, none⟩ = some (.bool false) := (blk_cell BR9.out 1).trans rfl; have s1 : w9.frozen? ⟨g0, 1, none⟩ = false := blk_frozen BR9.out 1; have t2 : w9.cell? ⟨g0, 2, none⟩ = some (.bool false) := (blk_cell BR9.out 2).trans rfl; have s2 : w9.frozen? ⟨g0, 2, none⟩ = false := blk_frozen BR9.out 2; have t3 : w9.cell? ⟨g0, 3, none⟩ = some (.bool false) := (blk_cell BR9.out 3).trans rfl; have s3 : w9.frozen? ⟨g0, 3, none⟩ = false := blk_frozen BR9.out 3; have HB13 : Below w.heap.size w ((((w9.setCell ⟨g0, 0, none⟩ (.int .i64 bs)).setCell ⟨g0, 1, none⟩ (.bool k)).setCell ⟨g0, 2, none⟩ (.bool l)).setCell ⟨g0, 3, none⟩ (.bool x)) := below_set (below_set (below_set (below_set HB9.out HLE0.out) HLE0.out) HLE0.out) HLE0.out; have HB14 := Aside0.mk HB13; clear HB13; clear BR9 BK9 HB9)))
            all_goals (try (rename_i hq; exfalso; simp [hs] at hq; done))
            (have hv := HV.out
             simp only [parseV] at hv
             rw [if_pos ⟨trivial, hs⟩] at hv
             simp only [Prod.mk.injEq] at hv
             obtain ⟨e1, e2, e3, e4, e5⟩ := hv
             subst e1
             subst e2
             subst e3
             subst e4
             subst e5
             exact bodyPost_ret (v := .tuple #[.agg #[.int .i64 bs, .bool k, .bool l, .bool x], .int .i64 0]) (by simp [results, Tryd.results18, go_sem, x0, x1, x2, x3]) rfl ⟨rfl, HB14.out⟩)
          · go_wp2_with (first
              | (go_at_call 13; go_loud (refine (filetype_Format.calls bs k l x ag _ _ HF2.out).mono ?_; rintro e w9 ⟨rfl, hb⟩; have BK9 := Aside0.mk (blk_below (g := gb) (o := (.cells #[.int .i64 bs, .bool k, .bool l, .bool x] 23)) (by (with_reducible repeat (first | refine blk_drewN ?_ _ | refine blk_drew ?_ | refine blk_alloc ?_ _)); exact BK.out) hb); have BR9 := Aside0.mk (blk_below (g := g0) (o := (.cells #[.int .i64 0, .bool false, .bool false, .bool false] 23)) (by (with_reducible repeat (first | refine blk_drewN ?_ _ | refine blk_drew ?_ | refine blk_alloc ?_ _)); exact BR.out) hb); have HB9 := Aside0.mk (below_step (by repeat (first | (with_reducible first | exact HB.out | apply below_alloc | apply pw_below_drewN | apply below_drew1) | exact HB.out)) hb); clear hb; have z0 : w9.cell? ⟨g0, 0, none⟩ = some (.int .i64 0) := (blk_cell BR9.out 0).trans rfl; have y0 : w9.frozen? ⟨g0, 0, none⟩ = false := blk_frozen BR9.out 0; have z1 : (w9.setCell ⟨g0, 0, none⟩ (.int .i64 0)).cell? ⟨g0, 1, none⟩ = some (.bool false) := (blk_cell (blk_set BR9.out 0 (.int .i64 0)) 1).trans rfl; have y1 : (w9.setCell ⟨g0, 0, none⟩ (.int .i64 0)).frozen? ⟨g0, 1, none⟩ = false := blk_frozen (blk_set BR9.out 0 (.int .i64 0)) 1; have z2 : ((w9.setCell ⟨g0, 0, none⟩ (.int .i64 0)).setCell ⟨g0, 1, none⟩ (.bool false)).cell? ⟨g0, 2, none⟩ = some (.bool false) := (blk_cell (blk_set (blk_set BR9.out 0 (.int .i64 0)) 1 (.bool false)) 2).trans rfl; have y2 : ((w9.setCell ⟨g0, 0, none⟩ (.int .i64 0)).setCell ⟨g0, 1, none⟩ (.bool false)).frozen? ⟨g0, 2, none⟩ = false := blk_frozen (blk_set (blk_set BR9.out 0 (.int .i64 0)) 1 (.bool false)) 2; have z3 : (((w9.setCell ⟨g0, 0, none⟩ (.int .i64 0)).setCell ⟨g0, 1, none⟩ (.bool false)).setCell ⟨g0, 2, none⟩ (.bool false)).cell? ⟨g0, 3, none⟩ = some (.bool false) := (blk_cell (blk_set (blk_set (blk_set BR9.out 0 (.int .i64 0)) 1 (.bool false)) 2 (.bool false)) 3).trans rfl; have y3 : (((w9.setCell ⟨g0, 0, none⟩ (.int .i64 0)).setCell ⟨g0, 1, none⟩ (.bool false)).setCell ⟨g0, 2, none⟩ (.bool false)).frozen? ⟨g0, 3, none⟩ = false := blk_frozen (blk_set (blk_set (blk_set BR9.out 0 (.int .i64 0)) 1 (.bool false)) 2 (.bool false)) 3; have x0 : ((((w9.setCell ⟨g0, 0, none⟩ (.int .i64 0)).setCell ⟨g0, 1, none⟩ (.bool false)).setCell ⟨g0, 2, none⟩ (.bool false)).setCell ⟨g0, 3, none⟩ (.bool false)).cell? ⟨g0, 0, none⟩ = some (.int .i64 0) := (blk_cell (blk_set (blk_set (blk_set (blk_set BR9.out 0 (.int .i64 0)) 1 (.bool false)) 2 (.bool false)) 3 (.bool false)) 0).trans rfl; have e0 : w9.cell? ⟨gb, 0, none⟩ = some (.int .i64 bs) := (blk_cell BK9.out 0).trans rfl; have x1 : ((((w9.setCell ⟨g0, 0, none⟩ (.int .i64 0)).setCell ⟨g0, 1, none⟩ (.bool false)).setCell ⟨g0, 2, none⟩ (.bool false)).setCell ⟨g0, 3, none⟩ (.bool false)).cell? ⟨g0, 1, none⟩ = some (.bool false) := (blk_cell (blk_set (blk_set (blk_set (blk_set BR9.out 0 (.int .i64 0)) 1 (.bool false)) 2 (.bool false)) 3 (.bool false)) 1).trans rfl; have e1 : w9.cell? ⟨gb, 1, none⟩ = some (.bool k) := (blk_cell BK9.out 1).trans rfl; have x2 : ((((w9.setCell ⟨g0, 0, none⟩ (.int .i64 0)).setCell ⟨g0, 1, none⟩ (.bool false)).setCell ⟨g0, 2, none⟩ (.bool false)).setCell ⟨g0, 3, none⟩ (.bool false)).cell? ⟨g0, 2, none⟩ = some (.bool false) := (blk_cell (blk_set (blk_set (blk_set (blk_set BR9.out 0 (.int .i64 0)) 1 (.bool false)) 2 (.bool false)) 3 (.bool false)) 2).trans rfl; have e2 : w9.cell? ⟨gb, 2, none⟩ = some (.bool l) := (blk_cell BK9.out 2).trans rfl; have x3 : ((((w9.setCell ⟨g0, 0, none⟩ (.int .i64 0)).setCell ⟨g0, 1, none⟩ (.bool false)).setCell ⟨g0, 2, none⟩ (.bool false)).setCell ⟨g0, 3, none⟩ (.bool false)).cell? ⟨g0, 3, none⟩ = some (.bool false) := (blk_cell (blk_set (blk_set (blk_set (blk_set BR9.out 0 (.int .i64 0)) 1 (.bool false)) 2 (.bool false)) 3 (.bool false)) 3).trans rfl; have e3 : w9.cell? ⟨gb, 3, none⟩ = some (.bool x) := (blk_cell BK9.out 3).trans rfl; have t1 : w9.cell? ⟨g0, 1, none⟩ = some (.bool false) := (blk_cell BR9.out 1).trans rfl; have s1 : w9.frozen? ⟨g0, 1, none⟩ = false := blk_frozen BR9.out 1; have t2 : w9.cell? ⟨g0, 2, none⟩ = some (.bool false) := (blk_cell BR9.out 2).trans rfl; have s2 : w9.frozen? ⟨g0, 2, none⟩ = false := blk_frozen BR9.out 2; have t3 : w9.cell? ⟨g0, 3, none⟩ = some (.bool false) := (blk_cell BR9.out 3).trans rfl; have s3 : w9.frozen? ⟨g0, 3, none⟩ = false := blk_frozen BR9.out 3; have HB13 : Below w.heap.size w ((((w9.setCell ⟨g0, 0, none⟩ (.int .i64 0)).setCell ⟨g0, 1, none⟩ (.bool false)).setCell ⟨g0, 2, none⟩ (.bool false)).setCell ⟨g0, 3, none⟩ (.bool false)) := below_set (below_set (below_set (below_set HB9.out HLE0.out) HLE0.out) HLE0.out) HLE0.out; have HB14 := Aside0.mk HB13; clear HB13; clear BR9 BK9 HB9)))
            all_goals (try (rename_i hq; exfalso; simp [hs] at hq; done))
            (have hv := HV.out
             simp only [parseV] at hv
             rw [if_neg (fun hh => hs hh.2)] at hv
             simp only [Prod.mk.injEq] at hv
             obtain ⟨e1, e2, e3, e4, e5⟩ := hv
             subst e1
             subst e2
             subst e3
             subst e4
             subst e5
             exact bodyPost_ret (v := .tuple #[.agg #[.int .i64 0, .bool false, .bool false, .bool false], .int .i64 90]) (by simp [results, Tryd.results18, go_sem, x0, x1, x2, x3]) rfl ⟨rfl, HB14.out⟩)
        · go_wp2_with (first
            | (go_at_call 13; go_loud (refine (filetype_Format.calls bs k l x ag _ _ HF2.out).mono ?_; rintro e w9 ⟨rfl, hb⟩; have BK9 := Aside0.mk (blk_below (g := gb) (o := (.cells #[.int .i64 bs, .bool k, .bool l, .bool x] 23)) (by (with_reducible repeat (first | refine blk_drewN ?_ _ | refine blk_drew ?_ | refine blk_alloc ?_ _)); exact BK.out) hb); have BR9 := Aside0.mk (blk_below (g := g0) (o := (.cells #[.int .i64 0, .bool false, .bool false, .bool false] 23)) (by (with_reducible repeat (first | refine blk_drewN ?_ _ | refine blk_drew ?_ | refine blk_alloc ?_ _)); exact BR.out) hb); have HB9 := Aside0.mk (below_step (by repeat (first | (with_reducible first | exact HB.out | apply below_alloc | apply pw_below_drewN | apply below_drew1) | exact HB.out)) hb); clear hb; have z0 : w9.cell? ⟨g0, 0, none⟩ = some (.int .i64 0) := (blk_cell BR9.out 0).trans rfl; have y0 : w9.frozen? ⟨g0, 0, none⟩ = false := blk_frozen BR9.out 0; have z1 : (w9.setCell ⟨g0, 0, none⟩ (.int .i64 0)).cell? ⟨g0, 1, none⟩ = some (.bool false) := (blk_cell (blk_set BR9.out 0 (.int .i64 0)) 1).trans rfl; have y1 : (w9.setCell ⟨g0, 0, none⟩ (.int .i64 0)).frozen? ⟨g0, 1, none⟩ = false := blk_frozen (blk_set BR9.out 0 (.int .i64 0)) 1; have z2 : ((w9.setCell ⟨g0, 0, none⟩ (.int .i64 0)).setCell ⟨g0, 1, none⟩ (.bool false)).cell? ⟨g0, 2, none⟩ = some (.bool false) := (blk_cell (blk_set (blk_set BR9.out 0 (.int .i64 0)) 1 (.bool false)) 2).trans rfl; have y2 : ((w9.setCell ⟨g0, 0, none⟩ (.int .i64 0)).setCell ⟨g0, 1, none⟩ (.bool false)).frozen? ⟨g0, 2, none⟩ = false := blk_frozen (blk_set (blk_set BR9.out 0 (.int .i64 0)) 1 (.bool false)) 2; have z3 : (((w9.setCell ⟨g0, 0, none⟩ (.int .i64 0)).setCell ⟨g0, 1, none⟩ (.bool false)).setCell ⟨g0, 2, none⟩ (.bool false)).cell? ⟨g0, 3, none⟩ = some (.bool false) := (blk_cell (blk_set (blk_set (blk_set BR9.out 0 (.int .i64 0)) 1 (.bool false)) 2 (.bool false)) 3).trans rfl; have y3 : (((w9.setCell ⟨g0, 0, none⟩ (.int .i64 0)).setCell ⟨g0, 1, none⟩ (.bool false)).setCell ⟨g0, 2, none⟩ (.bool false)).frozen? ⟨g0, 3, none⟩ = false := blk_frozen (blk_set (blk_set (blk_set BR9.out 0 (.int .i64 0)) 1 (.bool false)) 2 (.bool false)) 3; have x0 : ((((w9.setCell ⟨g0, 0, none⟩ (.int .i64 0)).setCell ⟨g0, 1, none⟩ (.bool false)).setCell ⟨g0, 2, none⟩ (.bool false)).setCell ⟨g0, 3, none⟩ (.bool false)).cell? ⟨g0, 0, none⟩ = some (.int .i64 0) := (blk_cell (blk_set (blk_set (blk_set (blk_set BR9.out 0 (.int .i64 0)) 1 (.bool false)) 2 (.bool false)) 3 (.bool false)) 0).trans rfl; have e0 : w9.cell? ⟨gb, 0, none⟩ = some (.int .i64 bs) := (blk_cell BK9.out 0).trans rfl; have x1 : ((((w9.setCell ⟨g0, 0, none⟩ (.int .i64 0)).setCell ⟨g0, 1, none⟩ (.bool false)).setCell ⟨g0, 2, none⟩ (.bool false)).setCell ⟨g0, 3, none⟩ (.bool false)).cell? ⟨g0, 1, none⟩ = some (.bool false) := (blk_cell (blk_set (blk_set (blk_set (blk_set BR9.out 0 (.int .i64 0)) 1 (.bool false)) 2 (.bool false)) 3 (.bool false)) 1).trans rfl; have e1 : w9.cell? ⟨gb, 1, none⟩ = some (.bool k) := (blk_cell BK9.out 1).trans rfl; have x2 : ((((w9.setCell ⟨g0, 0, none⟩ (.int .i64 0)).setCell ⟨g0, 1, none⟩ (.bool false)).setCell ⟨g0, 2, none⟩ (.bool false)).setCell ⟨g0, 3, none⟩ (.bool false)).cell? ⟨g0, 2, none⟩ = some (.bool false) := (blk_cell (blk_set (blk_set (blk_set (blk_set BR9.out 0 (.int .i64 0)) 1 (.bool false)) 2 (.bool false)) 3 (.bool false)) 2).trans rfl; have e2 : w9.cell? ⟨gb, 2, none⟩ = some (.bool l) := (blk_cell BK9.out 2).trans rfl; have x3 : ((((w9.setCell ⟨g0, 0, none⟩ (.int .i64 0)).setCell ⟨g0, 1, none⟩ (.bool false)).setCell ⟨g0, 2, none⟩ (.bool false)).setCell ⟨g0, 3, none⟩ (.bool false)).cell? ⟨g0, 3, none⟩ = some (.bool false) := (blk_cell (blk_set (blk_set (blk_set (blk_set BR9.out 0 (.int .i64 0)) 1 (.bool false)) 2 (.bool false)) 3 (.bool false)) 3).trans rfl; have e3 : w9.cell? ⟨gb, 3, none⟩ = some (.bool x) := (blk_cell BK9.out 3).trans rfl; have t1 : w9.cell? ⟨g0, 1, none⟩ = some (.bool false) := (blk_cell BR9.out 1).trans rfl; have s1 : w9.frozen? ⟨g0, 1, none⟩ = false := blk_frozen BR9.out 1; have t2 : w9.cell? ⟨g0, 2, none⟩ = some (.bool false) := (blk_cell BR9.out 2).trans rfl; have s2 : w9.frozen? ⟨g0, 2, none⟩ = false := blk_frozen BR9.out 2; have t3 : w9.cell? ⟨g0, 3, none⟩ = some (.bool false) := (blk_cell BR9.out 3).trans rfl; have s3 : w9.frozen? ⟨g0, 3, none⟩ = false := blk_frozen BR9.out 3; have HB13 : Below w.heap.size w ((((w9.setCell ⟨g0, 0, none⟩ (.int .i64 0)).setCell ⟨g0, 1, none⟩ (.bool false)).setCell ⟨g0, 2, none⟩ (.bool false)).setCell ⟨g0, 3, none⟩ (.bool false)) := below_set (below_set (below_set (below_set HB9.out HLE0.out) HLE0.out) HLE0.out) HLE0.out; have HB14 := Aside0.mk HB13; clear HB13; clear BR9 BK9 HB9)))
          (have hv := HV.out
           simp only [parseV] at hv
           rw [if_neg (fun hh => her hh.1)] at hv
           simp only [Prod.mk.injEq] at hv
           obtain ⟨e1, e2, e3, e4, e5⟩ := hv
           subst e1
           subst e2
           subst e3
           subst e4
           subst e5
           exact bodyPost_ret (v := .tuple #[.agg #[.int .i64 0, .bool false, .bool false, .bool false], .int .i64 90]) (by simp [results, Tryd.results18, go_sem, x0, x1, x2, x3]) rfl ⟨rfl, HB14.out⟩)

/-! ### path_allowed: function 42 -/
mutual
def path_allowed.j0 : Nat → Int → Bool → Option (Bool)
  | 0, _, _ => none
  | k + 1, x0, x3 => if x3 = true then (some true) else (if x0 ≥ 97 then (path_allowed.j1 k x0 (decide (x0 ≤ 122))) else (path_allowed.j1 k x0 false))
def path_allowed.j1 : Nat → Int → Bool → Option (Bool)
  | 0, _, _ => none
  | k + 1, x0, x3 => if x3 = true then (some true) else (if x0 ≥ 48 then (if x0 ≤ 57 then (some true) else (if x0 = 95 then (some true) else (if x0 = 46 then (some true) else (if x0 = 43 then (some true) else (some (x0 == 45)))))) else (if x0 = 95 then (some true) else (if x0 = 46 then (some true) else (if x0 = 43 then (some true) else (some (x0 == 45))))))
end
def path_allowed.f (k : Nat) (a0 : Int) : Option (Bool) := if a0 ≥ 65 then (path_allowed.j0 k a0 (decide (a0 ≤ 90))) else (path_allowed.j0 k a0 false)
theorem path_allowed.mono_l : ∀ k, (∀ y0 y1, LeO (path_allowed.j0 k y0 y1) (path_allowed.j0 (k + 1) y0 y1)) ∧ (∀ y0 y1, LeO (path_allowed.j1 k y0 y1) (path_allowed.j1 (k + 1) y0 y1))
  | 0 => ⟨fun _ _ r h => by simp [path_allowed.j0] at h, fun _ _ r h => by simp [path_allowed.j1] at h⟩
  | k + 1 => by
    obtain ⟨ih0, ih1⟩ := path_allowed.mono_l k
    refine ⟨?_, ?_⟩
    · intro y0 y1
      unfold path_allowed.j0
      repeat' first
      | (with_reducible exact ih0 _ _)
      | (with_reducible exact ih1 _ _)
      | (with_reducible exact LeO.refl _)
      | (with_reducible exact LeO.none _)
      | (with_reducible refine LeO.ite ?_ ?_)
      | (with_reducible refine LeO.bind ?_ (fun _ => ?_))
      | exact ih0 _ _
      | exact ih1 _ _
      | exact LeO.none _
      | refine LeO.ite ?_ ?_
      | refine LeO.bind ?_ (fun _ => ?_)
    · intro y0 y1
      unfold path_allowed.j1
      repeat' first
      | (with_reducible exact ih0 _ _)
      | (with_reducible exact ih1 _ _)
      | (with_reducible exact LeO.refl _)
      | (with_reducible exact LeO.none _)
      | (with_reducible refine LeO.ite ?_ ?_)
      | (with_reducible refine LeO.bind ?_ (fun _ => ?_))
      | exact ih0 _ _
      | exact ih1 _ _
      | exact LeO.none _
      | refine LeO.ite ?_ ?_
      | refine LeO.bind ?_ (fun _ => ?_)
theorem path_allowed.mono : ∀ a0 k, LeO (path_allowed.f k a0) (path_allowed.f (k + 1) a0) := by
  intro a0 k
  obtain ⟨ih0, ih1⟩ := path_allowed.mono_l k
  unfold path_allowed.f
  repeat' first
      | (with_reducible exact ih0 _ _)
      | (with_reducible exact ih1 _ _)
      | (with_reducible exact LeO.refl _)
      | (with_reducible exact LeO.none _)
      | (with_reducible refine LeO.ite ?_ ?_)
      | (with_reducible refine LeO.bind ?_ (fun _ => ?_))
      | exact ih0 _ _
      | exact ih1 _ _
      | exact LeO.none _
      | refine LeO.ite ?_ ?_
      | refine LeO.bind ?_ (fun _ => ?_)
set_option maxHeartbeats 8000000 in
set_option maxRecDepth 100000 in
theorem path_allowed.calls (k : Nat) (a0 : Int) (r : Bool) (w : World) (h : path_allowed.f k a0 = some r) :
    Calls Tryd.prog 42 #[.int .u8 a0] w fun e w' => e = .returned (.bool r) ∧ Drawn0 w w' := by
  have H : (if a0 ≥ 65 then (path_allowed.j0 k a0 (decide (a0 ≤ 90))) else (path_allowed.j0 k a0 false)) = some r := h
  clear h
  have HC2 := Aside0.mk H
  clear H
  go_enter Tryd.func42, Tryd.ntmps42
  go_upto_region 1 with (fail)
  go_cut [3] (fun v3 wc => ∃ (kq : Nat) (x3_1 : Bool), v3 = .bool x3_1 ∧ Aside0 (path_allowed.j0 kq a0 x3_1 = some r) ∧ Aside0 (kq ≤ k) ∧ Drawn0 w wc)
  case first =>
    have H := HC2.out
    clear HC2
    by_cases c3 : a0 ≥ 65
    · rw [if_pos c3] at H
      have c3b0 : decide (65 ≤ a0) = true := decide_eq_true c3
      clear c3
      (first | rw [c3b0] | (simp only [i64_w, i32_w]; rw [c3b0]) | skip)
      have H' := Aside0.mk H
      clear H
      go_wp2
      go_meet
      case rel => exact ⟨_, (decide (a0 ≤ 90)), (by first | rfl | (simp; done) | (simp [*]; done)), H', ⟨by first | omega | exact Nat.le_refl _⟩, by repeat (first | exact Drawn0.refl _ | apply Drawn0.step)⟩
    · rw [if_neg c3] at H
      have c3b0 : decide (65 ≤ a0) = false := decide_eq_false c3
      clear c3
      (first | rw [c3b0] | (simp only [i64_w, i32_w]; rw [c3b0]) | skip)
      have H' := Aside0.mk H
      clear H
      go_wp2
      go_meet
      case rel => exact ⟨_, (false), (by first | rfl | (simp; done) | (simp [*]; done)), H', ⟨by first | omega | exact Nat.le_refl _⟩, by repeat (first | exact Drawn0.refl _ | apply Drawn0.step)⟩
  case rest =>
    clear HC2
    try clear p2
    try clear c3
    try clear c3b0
    obtain ⟨kq, x3_1, rfl, HA, HJ1, ⟨mc1, rfl⟩⟩ := hcut
    cases kq with
    | zero => exact absurd HA.out (by simp [path_allowed.j0])
    | succ kj1 =>
      have H := HA.out
      clear HA
      simp only [path_allowed.j0] at H
      by_cases c4 : x3_1 = true
      · subst c4
        have H1 : (some true) = some r := by rw [if_pos rfl] at H; exact H
        clear H
        have H := H1
        clear H1
        obtain rfl := Option.some.inj H
        go_wp2
        go_ret
        exact ⟨by first | rfl | (simp; done) | (simp [*]; done), by repeat (first | exact Drawn0.refl _ | apply Drawn0.step)⟩
      · replace c4 := Bool.eq_false_iff.mpr c4
        subst c4
        have H1 : (if a0 ≥ 97 then (path_allowed.j1 kj1 a0 (decide (a0 ≤ 122))) else (path_allowed.j1 kj1 a0 false)) = some r := by rw [if_neg (show ¬ (false = true) by decide)] at H; exact H
        clear H
        have H := H1
        clear H1
        have HC5 := Aside0.mk H
        clear H
        go_upto_region 2 with (fail)
        go_cut [3] (fun v3 wc => ∃ (kq : Nat) (x3_4 : Bool), v3 = .bool x3_4 ∧ Aside0 (path_allowed.j1 kq a0 x3_4 = some r) ∧ Aside0 (kq ≤ kj1) ∧ Drawn0 w wc)
        case first =>
          have H := HC5.out
          clear HC5
          by_cases c6 : a0 ≥ 97
          · rw [if_pos c6] at H
            have c6b0 : decide (97 ≤ a0) = true := decide_eq_true c6
            clear c6
            (first | rw [c6b0] | (simp only [i64_w, i32_w]; rw [c6b0]) | skip)
            have H' := Aside0.mk H
            clear H
            go_wp2
            go_meet
            case rel => exact ⟨_, (decide (a0 ≤ 122)), (by first | rfl | (simp; done) | (simp [*]; done)), H', ⟨by have := HJ1.out; first | omega | exact Nat.le_refl _⟩, by repeat (first | exact Drawn0.refl _ | apply Drawn0.step)⟩
          · rw [if_neg c6] at H
            have c6b0 : decide (97 ≤ a0) = false := decide_eq_false c6
            clear c6
            (first | rw [c6b0] | (simp only [i64_w, i32_w]; rw [c6b0]) | skip)
            have H' := Aside0.mk H
            clear H
            go_wp2
            go_meet
            case rel => exact ⟨_, (false), (by first | rfl | (simp; done) | (simp [*]; done)), H', ⟨by have := HJ1.out; first | omega | exact Nat.le_refl _⟩, by repeat (first | exact Drawn0.refl _ | apply Drawn0.step)⟩
        case rest =>
          clear HC5
          try clear c1
          try clear p2
          try clear c3
          try clear c3b0
          try clear c4
          try clear c6
          try clear c6b0
          try clear p2
          obtain ⟨kq, x3_4, rfl, HA, HJ4, ⟨mc4, rfl⟩⟩ := hcut
          cases kq with
          | zero => exact absurd HA.out (by simp [path_allowed.j1])
          | succ kj4 =>
            have H := HA.out
            clear HA
            simp only [path_allowed.j1] at H
            by_cases c7 : x3_4 = true
            · subst c7
              have H1 : (some true) = some r := by rw [if_pos rfl] at H; exact H
              clear H
              have H := H1
              clear H1
              obtain rfl := Option.some.inj H
              go_wp2
              go_ret
              exact ⟨by first | rfl | (simp; done) | (simp [*]; done), by repeat (first | exact Drawn0.refl _ | apply Drawn0.step)⟩
            · replace c7 := Bool.eq_false_iff.mpr c7
              subst c7
              have H1 : (if a0 ≥ 48 then (if a0 ≤ 57 then (some true) else (if a0 = 95 then (some true) else (if a0 = 46 then (some true) else (if a0 = 43 then (some true) else (some (a0 == 45)))))) else (if a0 = 95 then (some true) else (if a0 = 46 then (some true) else (if a0 = 43 then (some true) else (some (a0 == 45)))))) = some r := by rw [if_neg (show ¬ (false = true) by decide)] at H; exact H
              clear H
              have H := H1
              clear H1
              by_cases c8 : a0 ≥ 48
              · rw [if_pos c8] at H
                have c8b0 : decide (48 ≤ a0) = true := decide_eq_true c8
                clear c8
                by_cases c9 : a0 ≤ 57
                · rw [if_pos c9] at H
                  have c9b0 : decide (a0 ≤ 57) = true := decide_eq_true c9
                  clear c9
                  obtain rfl := Option.some.inj H
                  go_wp2
                  go_ret
                  exact ⟨by first | rfl | (simp; done) | (simp [*]; done), by repeat (first | exact Drawn0.refl _ | apply Drawn0.step)⟩
                · rw [if_neg c9] at H
                  have c9b0 : decide (a0 ≤ 57) = false := decide_eq_false c9
                  clear c9
                  by_cases c10 : a0 = 95
                  · rw [if_pos c10] at H
                    have c10b0 : (a0 == 95) = true := beq_iff_eq.mpr c10
                    have c10b1 : (a0 != 95) = false := bne_eq_false_iff_eq.mpr c10
                    clear c10
                    obtain rfl := Option.some.inj H
                    go_wp2
                    go_ret
                    exact ⟨by first | rfl | (simp; done) | (simp [*]; done), by repeat (first | exact Drawn0.refl _ | apply Drawn0.step)⟩
                  · rw [if_neg c10] at H
                    have c10b0 : (a0 == 95) = false := beq_eq_false_iff_ne.mpr c10
                    have c10b1 : (a0 != 95) = true := bne_iff_ne.mpr c10
                    by_cases c11 : a0 = 46
                    · rw [if_pos c11] at H
                      have c11b0 : (a0 == 46) = true := beq_iff_eq.mpr c11
                      have c11b1 : (a0 != 46) = false := bne_eq_false_iff_eq.mpr c11
                      clear c11
                      obtain rfl := Option.some.inj H
                      go_wp2
                      go_ret
                      exact ⟨by first | rfl | (simp; done) | (simp [*]; done), by repeat (first | exact Drawn0.refl _ | apply Drawn0.step)⟩
                    · rw [if_neg c11] at H
                      have c11b0 : (a0 == 46) = false := beq_eq_false_iff_ne.mpr c11
                      have c11b1 : (a0 != 46) = true := bne_iff_ne.mpr c11
                      by_cases c12 : a0 = 43
                      · rw [if_pos c12] at H
                        have c12b0 : (a0 == 43) = true := beq_iff_eq.mpr c12
                        have c12b1 : (a0 != 43) = false := bne_eq_false_iff_eq.mpr c12
                        clear c12
                        obtain rfl := Option.some.inj H
                        go_wp2
                        go_ret
                        exact ⟨by first | rfl | (simp; done) | (simp [*]; done), by repeat (first | exact Drawn0.refl _ | apply Drawn0.step)⟩
                      · rw [if_neg c12] at H
                        have c12b0 : (a0 == 43) = false := beq_eq_false_iff_ne.mpr c12
                        have c12b1 : (a0 != 43) = true := bne_iff_ne.mpr c12
                        obtain rfl := Option.some.inj H
                        go_wp2
                        go_ret
                        exact ⟨by first | rfl | (simp; done) | (simp [*]; done), by repeat (first | exact Drawn0.refl _ | apply Drawn0.step)⟩
              · rw [if_neg c8] at H
                have c8b0 : decide (48 ≤ a0) = false := decide_eq_false c8
                clear c8
                by_cases c13 : a0 = 95
                · rw [if_pos c13] at H
                  have c13b0 : (a0 == 95) = true := beq_iff_eq.mpr c13
                  have c13b1 : (a0 != 95) = false := bne_eq_false_iff_eq.mpr c13
                  clear c13
                  obtain rfl := Option.some.inj H
                  go_wp2
                  go_ret
                  exact ⟨by first | rfl | (simp; done) | (simp [*]; done), by repeat (first | exact Drawn0.refl _ | apply Drawn0.step)⟩
                · rw [if_neg c13] at H
                  have c13b0 : (a0 == 95) = false := beq_eq_false_iff_ne.mpr c13
                  have c13b1 : (a0 != 95) = true := bne_iff_ne.mpr c13
                  by_cases c14 : a0 = 46
                  · rw [if_pos c14] at H
                    have c14b0 : (a0 == 46) = true := beq_iff_eq.mpr c14
                    have c14b1 : (a0 != 46) = false := bne_eq_false_iff_eq.mpr c14
                    clear c14
                    obtain rfl := Option.some.inj H
                    go_wp2
                    go_ret
                    exact ⟨by first | rfl | (simp; done) | (simp [*]; done), by repeat (first | exact Drawn0.refl _ | apply Drawn0.step)⟩
                  · rw [if_neg c14] at H
                    have c14b0 : (a0 == 46) = false := beq_eq_false_iff_ne.mpr c14
                    have c14b1 : (a0 != 46) = true := bne_iff_ne.mpr c14
                    by_cases c15 : a0 = 43
                    · rw [if_pos c15] at H
                      have c15b0 : (a0 == 43) = true := beq_iff_eq.mpr c15
                      have c15b1 : (a0 != 43) = false := bne_eq_false_iff_eq.mpr c15
                      clear c15
                      obtain rfl := Option.some.inj H
                      go_wp2
                      go_ret
                      exact ⟨by first | rfl | (simp; done) | (simp [*]; done), by repeat (first | exact Drawn0.refl _ | apply Drawn0.step)⟩
                    · rw [if_neg c15] at H
                      have c15b0 : (a0 == 43) = false := beq_eq_false_iff_ne.mpr c15
                      have c15b1 : (a0 != 43) = true := bne_iff_ne.mpr c15
                      obtain rfl := Option.some.inj H
                      go_wp2
                      go_ret
                      exact ⟨by first | rfl | (simp; done) | (simp [*]; done), by repeat (first | exact Drawn0.refl _ | apply Drawn0.step)⟩

/-! ### path_Component: function 23 -/
mutual
def path_Component.j0 : Nat → ByteArray → Bool → Option (Bool)
  | 0, _, _ => none
  | k + 1, x0, x10 => if x10 = true then (some false) else (path_Component.l0 k x0 (x0.size : Int) 0)
def path_Component.l0 : Nat → ByteArray → Int → Int → Option (Bool)
  | 0, _, _, _ => none
  | k + 1, x0, x12, x13 => if x13 < x12 then (if 0 ≤ x13 then (if x13 < (x0.size : Int) then ((path_allowed.f k (bt x0 x13)).bind fun t109 => (if t109 = true then (path_Component.l0 k x0 x12 (wrap64 (x13 + 1))) else (some false))) else (none)) else (none)) else (some true)
end
def path_Component.f (k : Nat) (a0 : ByteArray) : Option (Bool) := if a0.toList = ([] : List UInt8) then (path_Component.j0 k a0 true) else (if 0 < (a0.size : Int) then (path_Component.j0 k a0 ((bt a0 0) == 46)) else (none))
theorem path_Component.mono_l : ∀ k, (∀ y0 y1, LeO (path_Component.j0 k y0 y1) (path_Component.j0 (k + 1) y0 y1)) ∧ (∀ y0 y1 y2, LeO (path_Component.l0 k y0 y1 y2) (path_Component.l0 (k + 1) y0 y1 y2))
  | 0 => ⟨fun _ _ r h => by simp [path_Component.j0] at h, fun _ _ _ r h => by simp [path_Component.l0] at h⟩
  | k + 1 => by
    obtain ⟨ih0, ih1⟩ := path_Component.mono_l k
    refine ⟨?_, ?_⟩
    · intro y0 y1
      unfold path_Component.j0
      repeat' first
      | (with_reducible exact ih0 _ _)
      | (with_reducible exact ih1 _ _ _)
      | (with_reducible exact path_allowed.mono _ _)
      | (with_reducible exact LeO.refl _)
      | (with_reducible exact LeO.none _)
      | (with_reducible refine LeO.ite ?_ ?_)
      | (with_reducible refine LeO.bind ?_ (fun _ => ?_))
      | exact ih0 _ _
      | exact ih1 _ _ _
      | exact path_allowed.mono _ _
      | exact LeO.none _
      | refine LeO.ite ?_ ?_
      | refine LeO.bind ?_ (fun _ => ?_)
    · intro y0 y1 y2
      unfold path_Component.l0
      repeat' first
      | (with_reducible exact ih0 _ _)
      | (with_reducible exact ih1 _ _ _)
      | (with_reducible exact path_allowed.mono _ _)
      | (with_reducible exact LeO.refl _)
      | (with_reducible exact LeO.none _)
      | (with_reducible refine LeO.ite ?_ ?_)
      | (with_reducible refine LeO.bind ?_ (fun _ => ?_))
      | exact ih0 _ _
      | exact ih1 _ _ _
      | exact path_allowed.mono _ _
      | exact LeO.none _
      | refine LeO.ite ?_ ?_
      | refine LeO.bind ?_ (fun _ => ?_)
theorem path_Component.mono : ∀ a0 k, LeO (path_Component.f k a0) (path_Component.f (k + 1) a0) := by
  intro a0 k
  obtain ⟨ih0, ih1⟩ := path_Component.mono_l k
  unfold path_Component.f
  repeat' first
      | (with_reducible exact ih0 _ _)
      | (with_reducible exact ih1 _ _ _)
      | (with_reducible exact path_allowed.mono _ _)
      | (with_reducible exact LeO.refl _)
      | (with_reducible exact LeO.none _)
      | (with_reducible refine LeO.ite ?_ ?_)
      | (with_reducible refine LeO.bind ?_ (fun _ => ?_))
      | exact ih0 _ _
      | exact ih1 _ _ _
      | exact path_allowed.mono _ _
      | exact LeO.none _
      | refine LeO.ite ?_ ?_
      | refine LeO.bind ?_ (fun _ => ?_)
set_option maxHeartbeats 8000000 in
set_option maxRecDepth 100000 in
theorem path_Component.calls (k : Nat) (a0 : ByteArray) (r : Bool) (w : World) (h : path_Component.f k a0 = some r) :
    Calls Tryd.prog 23 #[.string a0] w fun e w' => e = .returned (.bool r) ∧ Drawn0 w w' := by
  have H : (if a0.toList = ([] : List UInt8) then (path_Component.j0 k a0 true) else (if 0 < (a0.size : Int) then (path_Component.j0 k a0 ((bt a0 0) == 46)) else (none))) = some r := h
  clear h
  have HC2 := Aside0.mk H
  clear H
  go_enter Tryd.func23, Tryd.ntmps23
  go_upto_region 1 with (fail)
  go_cut [10] (fun v10 wc => ∃ (kq : Nat) (x10_1 : Bool), v10 = .bool x10_1 ∧ Aside0 (path_Component.j0 kq a0 x10_1 = some r) ∧ Aside0 (kq ≤ k) ∧ Drawn0 w wc)
  case first =>
    have H := HC2.out
    clear HC2
    by_cases c3 : a0.toList = ([] : List UInt8)
    · rw [if_pos c3] at H
      have c3b0 : (a0.toList == ([] : List UInt8)) = true := beq_iff_eq.mpr c3
      have c3b1 : (a0.toList != ([] : List UInt8)) = false := bne_eq_false_iff_eq.mpr c3
      clear c3
      (first | rw [c3b0] | (simp only [i64_w, i32_w]; rw [c3b0]) | skip)
      have H' := Aside0.mk H
      clear H
      go_wp2
      go_meet
      case rel => exact ⟨_, (true), (by first | rfl | (simp; done) | (simp [*]; done)), H', ⟨by first | omega | exact Nat.le_refl _⟩, by repeat (first | exact Drawn0.refl _ | apply Drawn0.step)⟩
    · rw [if_neg c3] at H
      have c3b0 : (a0.toList == ([] : List UInt8)) = false := beq_eq_false_iff_ne.mpr c3
      have c3b1 : (a0.toList != ([] : List UInt8)) = true := bne_iff_ne.mpr c3
      (first | rw [c3b0] | (simp only [i64_w, i32_w]; rw [c3b0]) | skip)
      by_cases c4 : 0 < (a0.size : Int)
      · rw [if_pos c4] at H
        have c4b0 : decide (0 < (a0.size : Int)) = true := decide_eq_true c4
        have c4b1 : decide (0 < a0.size) = true := decide_eq_true (by omega)
        clear c4
        have H' := Aside0.mk H
        clear H
        have p5 : 0 ≤ (0 : Int) := (by omega)
        have q5 : 0 < a0.size := (by have : (0 : Int) < (a0.size : Int) := of_decide_eq_true (by first | (with_reducible assumption) | assumption); omega)
        have hx5 : ∀ h : 0 < a0.size, ((a0[0]'h).toNat : Int) = bt a0 0 := bt_at a0 0
        clear p5
        have qi5 : (0 < (a0.size : Int)) = True := eq_true (of_decide_eq_true (by first | (with_reducible assumption) | assumption))
        replace q5 := eq_true q5
        go_wp2
        go_meet
        case rel => exact ⟨_, (((bt a0 0) == 46)), (by first | rfl | (simp; done) | (simp [*]; done)), H', ⟨by first | omega | exact Nat.le_refl _⟩, by repeat (first | exact Drawn0.refl _ | apply Drawn0.step)⟩
      · rw [if_neg c4] at H
        exact absurd H (by simp)
  case rest =>
    clear HC2
    try clear c2
    try clear p2
    try clear c3
    try clear c3b0
    try clear c3b1
    try clear c4
    try clear c4b0
    try clear c4b1
    try clear p5
    try clear q5
    try clear hx5
    try clear qi5
    try clear p5
    try clear q5
    obtain ⟨kq, x10_1, rfl, HA, HJ1, ⟨mc1, rfl⟩⟩ := hcut
    cases kq with
    | zero => exact absurd HA.out (by simp [path_Component.j0])
    | succ kj1 =>
      have H := HA.out
      clear HA
      simp only [path_Component.j0] at H
      by_cases c6 : x10_1 = true
      · subst c6
        have H1 : (some false) = some r := by rw [if_pos rfl] at H; exact H
        clear H
        have H := H1
        clear H1
        obtain rfl := Option.some.inj H
        go_wp2
        go_ret
        exact ⟨by first | rfl | (simp; done) | (simp [*]; done), by repeat (first | exact Drawn0.refl _ | apply Drawn0.step)⟩
      · replace c6 := Bool.eq_false_iff.mpr c6
        subst c6
        have H1 : (path_Component.l0 kj1 a0 (a0.size : Int) 0) = some r := by rw [if_neg (show ¬ (false = true) by decide)] at H; exact H
        clear H
        have H := H1
        clear H1
        have H' := Aside0.mk H
        clear H
        go_wp2
        go_loopg [13] kj1 (fun kq v13 w' => ∃ (x13_2 : Int), v13 = .int .i64 x13_2 ∧ Aside0 (path_Component.l0 kq a0 (a0.size : Int) x13_2 = some r) ∧ Aside0 (kq ≤ kj1) ∧ Drawn0 w w')
        case atStart => exact ⟨(0), (by first | rfl | (simp; done) | (simp [*]; done)), H', ⟨Nat.le_refl _⟩, by repeat (first | exact Drawn0.refl _ | apply Drawn0.step)⟩
        case round =>
          clear H'
          try clear c1
          try clear c2
          try clear p2
          try clear c3
          try clear c3b0
          try clear c3b1
          try clear c4
          try clear c4b0
          try clear c4b1
          try clear p5
          try clear q5
          try clear hx5
          try clear qi5
          try clear c6
          try clear p2
          try clear p5
          try clear q5
          obtain ⟨x13_2, rfl, HA, HK2, ⟨m2, rfl⟩⟩ := hrel
          cases gk with
          | zero => exact absurd HA.out (by simp [path_Component.l0])
          | succ k2 =>
            have H := HA.out
            clear HA
            simp only [path_Component.l0] at H
            by_cases c7 : x13_2 < (a0.size : Int)
            · rw [if_pos c7] at H
              have c7b0 : decide (x13_2 < (a0.size : Int)) = true := decide_eq_true c7
              clear c7
              by_cases c8 : 0 ≤ x13_2
              · rw [if_pos c8] at H
                have c8b0 : decide (0 ≤ x13_2) = true := decide_eq_true c8
                clear c8
                by_cases c9 : x13_2 < (a0.size : Int)
                · rw [if_pos c9] at H
                  have c9b0 : decide (x13_2 < (a0.size : Int)) = true := decide_eq_true c9
                  clear c9
                  replace H := Option.bind_eq_some_iff.mp H
                  obtain ⟨t109, A110, H⟩ := H
                  replace H : (if t109 = true then (path_Component.l0 k2 a0 (a0.size : Int) (wrap64 (x13_2 + 1))) else (some false)) = some r := H
                  have A11 := Aside0.mk A110
                  clear A110
                  by_cases c12 : t109 = true
                  · subst c12
                    have H1 : (path_Component.l0 k2 a0 (a0.size : Int) (wrap64 (x13_2 + 1))) = some r := by rw [if_pos rfl] at H; exact H
                    clear H
                    have H := H1
                    clear H1
                    have H' := Aside0.mk H
                    clear H
                    have p10 : 0 ≤ (x13_2 : Int) := of_decide_eq_true (by first | (with_reducible assumption) | assumption)
                    have q10 : x13_2 < (a0.size : Int) := of_decide_eq_true (by first | (with_reducible assumption) | assumption)
                    have hx10 := bt_at a0 x13_2
                    replace p10 := eq_true p10
                    replace q10 := eq_true q10
                    go_wp2_with (first | ((with_reducible refine gate_callee (f := 42) rfl ?_); refine goesL_ (some 19) rfl rfl Tryd.func42 (by kernel_rfl) rfl #[.int .u8 (bt a0 x13_2)] rfl (by (try simp only [List.map_toArray, List.map_cons, List.map_nil]); first | done | rfl | (simp only [List.length_drop, List.length_take]; rfl)) ?_; (with_reducible refine (path_allowed.calls k2 (bt a0 x13_2) true _ A11.out).mono ?_); rintro e w' ⟨rfl, ⟨nd, rfl⟩⟩; refine ⟨_, rfl, ?_⟩))
                    go_roundg k2
                    case measure => have := HJ1.out; have := HK2.out; omega
                    case rel => exact ⟨(wrap64 (x13_2 + 1)), (by first | rfl | (simp; done) | (simp [*]; done)), H', ⟨by have := HJ1.out; have := HK2.out; omega⟩, by repeat (first | exact Drawn0.refl _ | apply Drawn0.step)⟩
                  · replace c12 := Bool.eq_false_iff.mpr c12
                    subst c12
                    have H1 : (some false) = some r := by rw [if_neg (show ¬ (false = true) by decide)] at H; exact H
                    clear H
                    have H := H1
                    clear H1
                    obtain rfl := Option.some.inj H
                    have p10 : 0 ≤ (x13_2 : Int) := of_decide_eq_true (by first | (with_reducible assumption) | assumption)
                    have q10 : x13_2 < (a0.size : Int) := of_decide_eq_true (by first | (with_reducible assumption) | assumption)
                    have hx10 := bt_at a0 x13_2
                    replace p10 := eq_true p10
                    replace q10 := eq_true q10
                    go_wp2_with (first | ((with_reducible refine gate_callee (f := 42) rfl ?_); refine goesL_ (some 19) rfl rfl Tryd.func42 (by kernel_rfl) rfl #[.int .u8 (bt a0 x13_2)] rfl (by (try simp only [List.map_toArray, List.map_cons, List.map_nil]); first | done | rfl | (simp only [List.length_drop, List.length_take]; rfl)) ?_; (with_reducible refine (path_allowed.calls k2 (bt a0 x13_2) false _ A11.out).mono ?_); rintro e w' ⟨rfl, ⟨nd, rfl⟩⟩; refine ⟨_, rfl, ?_⟩))
                    go_ret
                    exact ⟨by first | rfl | (simp; done) | (simp [*]; done), by repeat (first | exact Drawn0.refl _ | apply Drawn0.step)⟩
                · rw [if_neg c9] at H
                  exact absurd H (by simp)
              · rw [if_neg c8] at H
                exact absurd H (by simp)
            · rw [if_neg c7] at H
              have c7b0 : decide (x13_2 < (a0.size : Int)) = false := decide_eq_false c7
              clear c7
              obtain rfl := Option.some.inj H
              go_wp2
              go_ret
              exact ⟨by first | rfl | (simp; done) | (simp [*]; done), by repeat (first | exact Drawn0.refl _ | apply Drawn0.step)⟩

/-! ### strings_genSplit: function 52: an external -/
theorem R_strs (w : World) (e : Nat) (l : List ByteArray) (hl : l.length ≤ 9223372036854775807) :
    Kd.R Kd.string e (w.alloc (.cells (l.map Value.string).toArray e)) w.heap.size (fun _ => True) (.slice (some ⟨w.heap.size, 0, none⟩) l.length l.length) l := by
  refine ⟨fun _ _ => trivial, l.map Value.string, ⟨by simp [Kd.string, Kd.scalar], .inr ⟨w.heap.size, l.length, (l.map Value.string).toArray, rfl, Nat.le_refl _, heap_alloc_new w _, Nat.le_refl _, hl, by simp [Kd.string, Kd.scalar], ?_⟩⟩, ?_⟩
  · have e1 : l.length * Kd.string.sz = (l.map Value.string).length := by simp [Kd.string, Kd.scalar]
    rw [e1]
    exact List.take_length
  · refine ⟨by simp [Kd.string, Kd.scalar], fun j p hp => ?_⟩
    show ((l.map Value.string).drop (j * 1)).take 1 = [Value.string p]
    obtain ⟨hj, rfl⟩ := List.getElem?_eq_some_iff.1 hp
    rw [Nat.mul_one, List.drop_eq_getElem_cons (by simpa using hj)]
    simp
def strings_genSplit.f (a0 : ByteArray) (a1 : ByteArray) (a2 : Int) (a3 : Int) : Option (List ByteArray) := if a1.size = 1 ∧ a2 = 0 ∧ a3 = -1 ∧ a0.size < 4294967281 then some (Lib.splitB a1 0 (Lib.countB a0 a1) a0) else none
theorem strings_genSplit.calls (a0 : ByteArray) (a1 : ByteArray) (a2 : Int) (a3 : Int) (r : List ByteArray) (w : World) (h : strings_genSplit.f a0 a1 a2 a3 = some r) :
    Calls Tryd.prog 52 #[.string a0, .string a1, .int .i64 a2, .int .i64 a3] w fun e w' => ∃ v0_ : Value, e = .returned (v0_) ∧ Kd.R Kd.string 9 w' w.heap.size (fun _ => True) v0_ r ∧ Below w.heap.size w w' := by
  unfold strings_genSplit.f at h
  split at h
  · rename_i hh
    obtain ⟨hs1, rfl, rfl, hs⟩ := hh
    obtain rfl := Option.some.inj h
    obtain ⟨c, rfl⟩ := Lib.one_byte a1 hs1
    have hle := Lib.countB_le ⟨#[c]⟩ (Nat.le_refl 1) a0.size a0 (Nat.le_refl _)
    have hlen := Lib.splitB_all ⟨#[c]⟩ (Nat.le_refl 1) 0 _ a0 rfl
    have hcnt : Lib.countB a0 ⟨#[c]⟩ = Lib.countByte a0.data.toList c := Lib.count_one c a0.data.toList
    have hc := Any.strings_genSplit_core Tryd.lays221 (by kernel_rfl) a0 ⟨#[c]⟩ 0 (-1) (Lib.countB a0 ⟨#[c]⟩ + 1) w hs (Nat.le_refl 1) (Nat.zero_le _)
      (fun x cs _ => (Tryd.strings_Index_one x c _).mono fun e w' ⟨he, hw⟩ => ⟨by rw [he, show Lib.indexB x ⟨#[c]⟩ = Lib.indexByte x.data.toList c from Lib.index_one _ _], hw⟩)
      ((Tryd.strings_Count_one a0 c w).mono fun e w' ⟨he, hw⟩ => ⟨by rw [he, hcnt], hw⟩) (by decide) (by decide) (by rw [if_pos (by decide)]; omega)
    rw [Nat.add_sub_cancel] at hc
    have e2 : Lib.cellsOf (Lib.splitB ⟨#[c]⟩ 0 (Lib.countB a0 ⟨#[c]⟩) a0) (Lib.countB a0 ⟨#[c]⟩ + 1) = ((Lib.splitB ⟨#[c]⟩ 0 (Lib.countB a0 ⟨#[c]⟩) a0).map Value.string).toArray := by rw [← hlen]; exact Lib.cellsOf_full _
    rw [e2] at hc
    refine hc.mono fun e w' ⟨he, hw⟩ => ?_
    subst he
    subst hw
    refine ⟨_, rfl, ?_, below_alloc (Below.refl _ _) _⟩
    have hR := R_strs w 9 (Lib.splitB ⟨#[c]⟩ 0 (Lib.countB a0 ⟨#[c]⟩) a0) (by omega)
    rw [← hlen]
    exact hR
  · cases h

/-! ### strings_Split: function 39 -/
def strings_Split.f (a0 : ByteArray) (a1 : ByteArray) : Option (List ByteArray) := (strings_genSplit.f a0 a1 0 (-1)).bind fun t110 => (some t110)
set_option maxHeartbeats 8000000 in
set_option maxRecDepth 100000 in
theorem strings_Split.calls (a0 : ByteArray) (a1 : ByteArray) (r : List ByteArray) (w : World) (h : strings_Split.f a0 a1 = some r) :
    Calls Tryd.prog 39 #[.string a0, .string a1] w fun e w' => ∃ v0_ : Value, e = .returned (v0_) ∧ Kd.R Kd.string 9 w' w.heap.size (fun _ => True) v0_ r ∧ Below w.heap.size w w' := by
  have HB := Aside0.mk (Below.refl w.heap.size w)
  have H : ((strings_genSplit.f a0 a1 0 (-1)).bind fun t110 => (some t110)) = some r := h
  clear h
  replace H := Option.bind_eq_some_iff.mp H
  obtain ⟨t110, A30, H⟩ := H
  replace H : (some t110) = some r := H
  have A3 := Aside0.mk A30
  clear A30
  obtain rfl := Option.some.inj H
  go_enter Tryd.func39, Tryd.ntmps39
  go_wp2_with (first | ((with_reducible refine gate_callee (f := 52) rfl ?_); refine goesL_ (some 7) rfl rfl Tryd.func52 (by kernel_rfl) rfl #[.string a0, .string a1, .int .i64 0, .int .i64 (-1)] rfl (by (try simp only [List.map_toArray, List.map_cons, List.map_nil]); first | done | rfl | (simp only [List.length_drop, List.length_take]; rfl)) ?_; (with_reducible refine (strings_genSplit.calls a0 a1 0 (-1) t110 _ A3.out).mono ?_); rintro e w4 ⟨v111, rfl, ho0, hb⟩; refine ⟨_, rfl, ?_⟩; have n0_ := Aside0.mk (Kd.R_lower ho0 (below_size (by repeat (first | (with_reducible first | exact HB.out | apply below_alloc | apply pw_below_drewN | apply below_drew1) | exact HB.out)))); have n1_ := Aside0.mk (below_step (by repeat (first | (with_reducible first | exact HB.out | apply below_alloc | apply pw_below_drewN | apply below_drew1) | exact HB.out)) hb); clear HB; have HO112 := n0_; have HB := n1_; clear n0_ n1_; (try clear hb); (try clear hb2); (try clear hk); (try clear hi); (try clear ho0)))
  go_ret
  exact ⟨_, by first | rfl | (simp [errW_none, errW_some] <;> rfl) | (simp [*, errW_none, errW_some] <;> rfl), by (with_reducible repeat (first | apply Kd.R_alloc | apply Kd.R_drewN | apply Kd.R_drew)); exact HO112.out, by repeat (first | (with_reducible first | exact HB.out | apply below_alloc | apply pw_below_drewN | apply below_drew1) | exact HB.out)⟩

/-! ### stringslite_HasPrefix: function 79 -/
def stringslite_HasPrefix.f (a0 : ByteArray) (a1 : ByteArray) : Option (Bool) := if (a0.size : Int) ≥ (a1.size : Int) then (if 0 ≤ (a1.size : Int) then (if (a1.size : Int) ≤ (a0.size : Int) then (some ((a0.extract 0 ((a1.size : Int) : Int).toNat).toList == a1.toList)) else (none)) else (none)) else (some false)
set_option maxHeartbeats 8000000 in
set_option maxRecDepth 100000 in
theorem stringslite_HasPrefix.calls (a0 : ByteArray) (a1 : ByteArray) (r : Bool) (w : World) (h : stringslite_HasPrefix.f a0 a1 = some r) :
    Calls Tryd.prog 79 #[.string a0, .string a1] w fun e w' => e = .returned (.bool r) ∧ Drawn0 w w' := by
  have H : (if (a0.size : Int) ≥ (a1.size : Int) then (if 0 ≤ (a1.size : Int) then (if (a1.size : Int) ≤ (a0.size : Int) then (some ((a0.extract 0 ((a1.size : Int) : Int).toNat).toList == a1.toList)) else (none)) else (none)) else (some false)) = some r := h
  clear h
  by_cases c3 : (a0.size : Int) ≥ (a1.size : Int)
  · rw [if_pos c3] at H
    have c3b0 : decide ((a1.size : Int) ≤ (a0.size : Int)) = true := decide_eq_true c3
    have c3b1 : decide (a1.size ≤ a0.size) = true := decide_eq_true (Int.ofNat_le.mp c3)
    clear c3
    by_cases c4 : 0 ≤ (a1.size : Int)
    · rw [if_pos c4] at H
      have c4b0 := eq_true c4
      have c4b1 : decide (0 ≤ (a1.size : Int)) = true := decide_eq_true c4
      clear c4
      by_cases c5 : (a1.size : Int) ≤ (a0.size : Int)
      · rw [if_pos c5] at H
        have c5b0 := eq_true c5
        have c5b1 : decide ((a1.size : Int) ≤ (a0.size : Int)) = true := decide_eq_true c5
        clear c5
        obtain rfl := Option.some.inj H
        go_enter Tryd.func79, Tryd.ntmps79
        go_wp2
        go_ret
        exact ⟨by first | rfl | (simp; done) | (simp [*]; done), by repeat (first | exact Drawn0.refl _ | apply Drawn0.step)⟩
      · rw [if_neg c5] at H
        exact absurd H (by simp)
    · rw [if_neg c4] at H
      exact absurd H (by simp)
  · rw [if_neg c3] at H
    have c3b0 : decide ((a1.size : Int) ≤ (a0.size : Int)) = false := decide_eq_false c3
    have c3b1 : decide (a1.size ≤ a0.size) = false := decide_eq_false (fun h => c3 (Int.ofNat_le.mpr h))
    clear c3
    obtain rfl := Option.some.inj H
    go_enter Tryd.func79, Tryd.ntmps79
    go_wp2
    go_ret
    exact ⟨by first | rfl | (simp; done) | (simp [*]; done), by repeat (first | exact Drawn0.refl _ | apply Drawn0.step)⟩

/-! ### stringslite_CutPrefix: function 69 -/
def stringslite_CutPrefix.f (a0 : ByteArray) (a1 : ByteArray) : Option (ByteArray × Bool) := (stringslite_HasPrefix.f a0 a1).bind fun t113 => (if t113 = true then (if 0 ≤ (a1.size : Int) then (if (a1.size : Int) ≤ (a0.size : Int) then (some (a0.extract ((a1.size : Int) : Int).toNat a0.size, true)) else (none)) else (none)) else (some (a0, false)))
set_option maxHeartbeats 8000000 in
set_option maxRecDepth 100000 in
theorem stringslite_CutPrefix.calls (a0 : ByteArray) (a1 : ByteArray) (r1 : ByteArray) (r2 : Bool) (w : World) (h : stringslite_CutPrefix.f a0 a1 = some (r1, r2)) :
    Calls Tryd.prog 69 #[.string a0, .string a1] w fun e w' => e = .returned (.tuple #[.string r1, .bool r2]) ∧ Drawn0 w w' := by
  have H : ((stringslite_HasPrefix.f a0 a1).bind fun t113 => (if t113 = true then (if 0 ≤ (a1.size : Int) then (if (a1.size : Int) ≤ (a0.size : Int) then (some (a0.extract ((a1.size : Int) : Int).toNat a0.size, true)) else (none)) else (none)) else (some (a0, false)))) = some (r1, r2) := h
  clear h
  replace H := Option.bind_eq_some_iff.mp H
  obtain ⟨t113, A30, H⟩ := H
  replace H : (if t113 = true then (if 0 ≤ (a1.size : Int) then (if (a1.size : Int) ≤ (a0.size : Int) then (some (a0.extract ((a1.size : Int) : Int).toNat a0.size, true)) else (none)) else (none)) else (some (a0, false))) = some (r1, r2) := H
  have A3 := Aside0.mk A30
  clear A30
  by_cases c4 : t113 = true
  · subst c4
    have H1 : (if 0 ≤ (a1.size : Int) then (if (a1.size : Int) ≤ (a0.size : Int) then (some (a0.extract ((a1.size : Int) : Int).toNat a0.size, true)) else (none)) else (none)) = some (r1, r2) := by rw [if_pos rfl] at H; exact H
    clear H
    have H := H1
    clear H1
    by_cases c5 : 0 ≤ (a1.size : Int)
    · rw [if_pos c5] at H
      have c5b0 := eq_true c5
      have c5b1 : decide (0 ≤ (a1.size : Int)) = true := decide_eq_true c5
      clear c5
      by_cases c6 : (a1.size : Int) ≤ (a0.size : Int)
      · rw [if_pos c6] at H
        have c6b0 := eq_true c6
        have c6b1 : decide ((a1.size : Int) ≤ (a0.size : Int)) = true := decide_eq_true c6
        clear c6
        simp only [Option.some.injEq, Prod.mk.injEq] at H
        obtain ⟨rfl, rfl⟩ := H
        go_enter Tryd.func69, Tryd.ntmps69
        go_wp2_with (first | ((with_reducible refine gate_callee (f := 79) rfl ?_); refine goesL_ (some 8) rfl rfl Tryd.func79 (by kernel_rfl) rfl #[.string a0, .string a1] rfl (by (try simp only [List.map_toArray, List.map_cons, List.map_nil]); first | done | rfl | (simp only [List.length_drop, List.length_take]; rfl)) ?_; (with_reducible refine (stringslite_HasPrefix.calls a0 a1 true _ A3.out).mono ?_); rintro e w' ⟨rfl, ⟨nd, rfl⟩⟩; refine ⟨_, rfl, ?_⟩))
        go_ret2
        exact ⟨by first | rfl | (simp; done) | (simp [*]; done), by repeat (first | exact Drawn0.refl _ | apply Drawn0.step)⟩
      · rw [if_neg c6] at H
        exact absurd H (by simp)
    · rw [if_neg c5] at H
      exact absurd H (by simp)
  · replace c4 := Bool.eq_false_iff.mpr c4
    subst c4
    have H1 : (some (a0, false)) = some (r1, r2) := by rw [if_neg (show ¬ (false = true) by decide)] at H; exact H
    clear H
    have H := H1
    clear H1
    simp only [Option.some.injEq, Prod.mk.injEq] at H
    obtain ⟨rfl, rfl⟩ := H
    go_enter Tryd.func69, Tryd.ntmps69
    go_wp2_with (first | ((with_reducible refine gate_callee (f := 79) rfl ?_); refine goesL_ (some 8) rfl rfl Tryd.func79 (by kernel_rfl) rfl #[.string a0, .string a1] rfl (by (try simp only [List.map_toArray, List.map_cons, List.map_nil]); first | done | rfl | (simp only [List.length_drop, List.length_take]; rfl)) ?_; (with_reducible refine (stringslite_HasPrefix.calls a0 a1 false _ A3.out).mono ?_); rintro e w' ⟨rfl, ⟨nd, rfl⟩⟩; refine ⟨_, rfl, ?_⟩))
    go_ret2
    exact ⟨by first | rfl | (simp; done) | (simp [*]; done), by repeat (first | exact Drawn0.refl _ | apply Drawn0.step)⟩

/-! ### strings_CutPrefix: function 54 -/
def strings_CutPrefix.f (a0 : ByteArray) (a1 : ByteArray) : Option (ByteArray × Bool) := (stringslite_CutPrefix.f a0 a1).bind fun bt114 => (some (bt114.1, bt114.2))
set_option maxHeartbeats 8000000 in
set_option maxRecDepth 100000 in
theorem strings_CutPrefix.calls (a0 : ByteArray) (a1 : ByteArray) (r1 : ByteArray) (r2 : Bool) (w : World) (h : strings_CutPrefix.f a0 a1 = some (r1, r2)) :
    Calls Tryd.prog 54 #[.string a0, .string a1] w fun e w' => e = .returned (.tuple #[.string r1, .bool r2]) ∧ Drawn0 w w' := by
  have H : ((stringslite_CutPrefix.f a0 a1).bind fun bt114 => (some (bt114.1, bt114.2))) = some (r1, r2) := h
  clear h
  replace H := Option.bind_eq_some_iff.mp H
  obtain ⟨⟨t114, t115⟩, A30, H⟩ := H
  replace H : (some (t114, t115)) = some (r1, r2) := H
  have A3 := Aside0.mk A30
  clear A30
  simp only [Option.some.injEq, Prod.mk.injEq] at H
  obtain ⟨rfl, rfl⟩ := H
  go_enter Tryd.func54, Tryd.ntmps54
  go_wp2_with (first | ((with_reducible refine gate_callee (f := 69) rfl ?_); refine goesL_ (some 8) rfl rfl Tryd.func69 (by kernel_rfl) rfl #[.string a0, .string a1] rfl (by (try simp only [List.map_toArray, List.map_cons, List.map_nil]); first | done | rfl | (simp only [List.length_drop, List.length_take]; rfl)) ?_; (with_reducible refine (stringslite_CutPrefix.calls a0 a1 t114 t115 _ A3.out).mono ?_); rintro e w' ⟨rfl, ⟨nd, rfl⟩⟩; refine ⟨_, rfl, ?_⟩))
  go_ret2
  exact ⟨by first | rfl | (simp; done) | (simp [*]; done), by repeat (first | exact Drawn0.refl _ | apply Drawn0.step)⟩

/-! ### path_directory: function 41 -/
def path_directory.l0 : Nat → List ByteArray → List ByteArray → Int → Int → Option (List ByteArray × Bool)
  | 0, _, _, _, _ => none
  | k + 1, x6, x18, x19, x20 => if x20 < x19 then (if 0 ≤ x20 then (if x20 < (x18.length : Int) then ((path_Component.f k (rdOf ByteArray.empty x18 x20)).bind fun t122 => (if t122 = true then (path_directory.l0 k x6 x18 x19 (wrap64 (x20 + 1))) else (some (([] : List ByteArray), false)))) else (none)) else (none)) else (some (x6, true))
def path_directory.f (k : Nat) (a0 : ByteArray) : Option (List ByteArray × Bool) := (strings_CutPrefix.f a0 (⟨#[47, 47]⟩ : ByteArray)).bind fun bt116 => (if bt116.2 = true then ((strings_Split.f bt116.1 (⟨#[47]⟩ : ByteArray)).bind fun t118 => (path_directory.l0 k t118 t118 (t118.length : Int) 0)) else (some (([] : List ByteArray), false)))
theorem path_directory.mono_l : ∀ k, (∀ y0 y1 y2 y3, LeO (path_directory.l0 k y0 y1 y2 y3) (path_directory.l0 (k + 1) y0 y1 y2 y3))
  | 0 => fun _ _ _ _ r h => by simp [path_directory.l0] at h
  | k + 1 => by
    have ih0 := path_directory.mono_l k
    · intro y0 y1 y2 y3
      unfold path_directory.l0
      repeat' first
      | (with_reducible exact ih0 _ _ _ _)
      | (with_reducible exact path_Component.mono _ _)
      | (with_reducible exact LeO.refl _)
      | (with_reducible exact LeO.none _)
      | (with_reducible refine LeO.ite ?_ ?_)
      | (with_reducible refine LeO.bind ?_ (fun _ => ?_))
      | exact ih0 _ _ _ _
      | exact path_Component.mono _ _
      | exact LeO.none _
      | refine LeO.ite ?_ ?_
      | refine LeO.bind ?_ (fun _ => ?_)
theorem path_directory.mono : ∀ a0 k, LeO (path_directory.f k a0) (path_directory.f (k + 1) a0) := by
  intro a0 k
  have ih0 := path_directory.mono_l k
  unfold path_directory.f
  repeat' first
      | (with_reducible exact ih0 _ _ _ _)
      | (with_reducible exact path_Component.mono _ _)
      | (with_reducible exact LeO.refl _)
      | (with_reducible exact LeO.none _)
      | (with_reducible refine LeO.ite ?_ ?_)
      | (with_reducible refine LeO.bind ?_ (fun _ => ?_))
      | exact ih0 _ _ _ _
      | exact path_Component.mono _ _
      | exact LeO.none _
      | refine LeO.ite ?_ ?_
      | refine LeO.bind ?_ (fun _ => ?_)
set_option maxHeartbeats 8000000 in
set_option maxRecDepth 100000 in
theorem path_directory.calls (k : Nat) (a0 : ByteArray) (r1 : List ByteArray) (r2 : Bool) (w : World) (h : path_directory.f k a0 = some (r1, r2)) :
    Calls Tryd.prog 41 #[.string a0] w fun e w' => ∃ v0_ : Value, e = .returned (.tuple #[v0_, .bool r2]) ∧ Kd.R Kd.string 9 w' w.heap.size (fun _ => True) v0_ r1 ∧ Below w.heap.size w w' := by
  have HB := Aside0.mk (Below.refl w.heap.size w)
  have H : ((strings_CutPrefix.f a0 (⟨#[47, 47]⟩ : ByteArray)).bind fun bt116 => (if bt116.2 = true then ((strings_Split.f bt116.1 (⟨#[47]⟩ : ByteArray)).bind fun t118 => (path_directory.l0 k t118 t118 (t118.length : Int) 0)) else (some (([] : List ByteArray), false)))) = some (r1, r2) := h
  clear h
  replace H := Option.bind_eq_some_iff.mp H
  obtain ⟨⟨t116, t117⟩, A20, H⟩ := H
  replace H : (if t117 = true then ((strings_Split.f t116 (⟨#[47]⟩ : ByteArray)).bind fun t118 => (path_directory.l0 k t118 t118 (t118.length : Int) 0)) else (some (([] : List ByteArray), false))) = some (r1, r2) := H
  have A2 := Aside0.mk A20
  clear A20
  by_cases c3 : t117 = true
  · subst c3
    have H1 : ((strings_Split.f t116 (⟨#[47]⟩ : ByteArray)).bind fun t118 => (path_directory.l0 k t118 t118 (t118.length : Int) 0)) = some (r1, r2) := by rw [if_pos rfl] at H; exact H
    clear H
    have H := H1
    clear H1
    replace H := Option.bind_eq_some_iff.mp H
    obtain ⟨t118, A40, H⟩ := H
    replace H : (path_directory.l0 k t118 t118 (t118.length : Int) 0) = some (r1, r2) := H
    have A4 := Aside0.mk A40
    clear A40
    have H' := Aside0.mk H
    clear H
    go_enter Tryd.func41, Tryd.ntmps41
    go_wp2_with (first | ((with_reducible refine gate_callee (f := 54) rfl ?_); refine goesL_ (some 11) rfl rfl Tryd.func54 (by kernel_rfl) rfl #[.string a0, .string (⟨#[47, 47]⟩ : ByteArray)] rfl (by (try simp only [List.map_toArray, List.map_cons, List.map_nil]); first | done | rfl | (simp only [List.length_drop, List.length_take]; rfl)) ?_; (with_reducible refine (strings_CutPrefix.calls a0 (⟨#[47, 47]⟩ : ByteArray) t116 true _ A2.out).mono ?_); rintro e w' ⟨rfl, ⟨nd, rfl⟩⟩; refine ⟨_, rfl, ?_⟩) | ((with_reducible refine gate_callee (f := 39) rfl ?_); refine goesL_ (some 17) rfl rfl Tryd.func39 (by kernel_rfl) rfl #[.string t116, .string (⟨#[47]⟩ : ByteArray)] rfl (by (try simp only [List.map_toArray, List.map_cons, List.map_nil]); first | done | rfl | (simp only [List.length_drop, List.length_take]; rfl)) ?_; (with_reducible refine (strings_Split.calls t116 (⟨#[47]⟩ : ByteArray) t118 _ A4.out).mono ?_); rintro e w5 ⟨v119, rfl, ho0, hb⟩; refine ⟨_, rfl, ?_⟩; have n0_ := Aside0.mk (Kd.R_lower ho0 (below_size (by repeat (first | (with_reducible first | exact HB.out | apply below_alloc | apply pw_below_drewN | apply below_drew1) | exact HB.out)))); have n1_ := Aside0.mk (below_step (by repeat (first | (with_reducible first | exact HB.out | apply below_alloc | apply pw_below_drewN | apply below_drew1) | exact HB.out)) hb); clear HB; have HO120 := n0_; have HB := n1_; clear n0_ n1_; (try clear hb); (try clear hb2); (try clear hk); (try clear hi); (try clear ho0); obtain ⟨Ao6, co6, eo6⟩ := Kd.R_slice HO120.out; subst eo6))
    go_loopg [20] k (fun kq v20 w' => ∃ (x20_1 : Int), v20 = .int .i64 x20_1 ∧ Aside0 (path_directory.l0 kq t118 t118 (t118.length : Int) x20_1 = some (r1, r2)) ∧ Aside0 (kq ≤ k) ∧ Aside0 (Kd.R Kd.string 9 w' w.heap.size (fun _ => True) (.slice Ao6 t118.length co6) t118) ∧ Aside0 (Kd.R Kd.string 9 w' w.heap.size (fun _ => True) (.slice Ao6 t118.length co6) t118) ∧ Aside0 (Below w.heap.size w w'))
    case atStart => exact ⟨(0), (by first | rfl | (simp; done) | (simp [*]; done)), H', ⟨Nat.le_refl _⟩, ⟨by (with_reducible repeat (first | apply Kd.R_alloc | apply Kd.R_drewN | apply Kd.R_drew)); exact HO120.out⟩, ⟨by (with_reducible repeat (first | apply Kd.R_alloc | apply Kd.R_drewN | apply Kd.R_drew)); exact HO120.out⟩, ⟨by repeat (first | (with_reducible first | exact HB.out | apply below_alloc | apply pw_below_drewN | apply below_drew1) | exact HB.out)⟩⟩
    case round =>
      clear H'
      try clear p2
      try clear c3
      try clear c4
      try clear c5
      obtain ⟨x20_1, rfl, HA, HK1, HO_6, HO_18, HB⟩ := hrel
      cases gk with
      | zero => exact absurd HA.out (by simp [path_directory.l0])
      | succ k1 =>
        have H := HA.out
        clear HA
        simp only [path_directory.l0] at H
        by_cases c7 : x20_1 < (t118.length : Int)
        · rw [if_pos c7] at H
          have c7b0 : decide (x20_1 < (t118.length : Int)) = true := decide_eq_true c7
          clear c7
          by_cases c8 : 0 ≤ x20_1
          · rw [if_pos c8] at H
            have c8b0 : decide (0 ≤ x20_1) = true := decide_eq_true c8
            clear c8
            by_cases c9 : x20_1 < (t118.length : Int)
            · rw [if_pos c9] at H
              have c9b0 : decide (x20_1 < (t118.length : Int)) = true := decide_eq_true c9
              clear c9
              replace H := Option.bind_eq_some_iff.mp H
              obtain ⟨t122, A100, H⟩ := H
              replace H : (if t122 = true then (path_directory.l0 k1 t118 t118 (t118.length : Int) (wrap64 (x20_1 + 1))) else (some (([] : List ByteArray), false))) = some (r1, r2) := H
              have A10 := Aside0.mk A100
              clear A100
              by_cases c11 : t122 = true
              · subst c11
                have H1 : (path_directory.l0 k1 t118 t118 (t118.length : Int) (wrap64 (x20_1 + 1))) = some (r1, r2) := by rw [if_pos rfl] at H; exact H
                clear H
                have H := H1
                clear H1
                have H' := Aside0.mk H
                clear H
                have p121 : 0 ≤ (x20_1 : Int) := of_decide_eq_true (by first | (with_reducible assumption) | assumption)
                have q121 : x20_1 < (t118.length : Int) := of_decide_eq_true (by first | (with_reducible assumption) | assumption)
                obtain ⟨ad121, e121, hx121_0⟩ := Kd.at_string (Kd.R_reads' HO_18.out).2.2 x20_1 p121 q121
                cases e121
                replace p121 := eq_true p121
                replace q121 := eq_true q121
                go_wp2_with (first | ((with_reducible refine gate_callee (f := 23) rfl ?_); refine goesL_ (some 25) rfl rfl Tryd.func23 (by kernel_rfl) rfl #[.string (rdOf ByteArray.empty t118 x20_1)] rfl (by (try simp only [List.map_toArray, List.map_cons, List.map_nil]); first | done | rfl | (simp only [List.length_drop, List.length_take]; rfl)) ?_; (with_reducible refine (path_Component.calls k1 (rdOf ByteArray.empty t118 x20_1) true _ A10.out).mono ?_); rintro e w' ⟨rfl, ⟨nd, rfl⟩⟩; refine ⟨_, rfl, ?_⟩))
                go_roundg k1
                case measure => have := HK1.out; omega
                case rel => exact ⟨(wrap64 (x20_1 + 1)), (by first | rfl | (simp; done) | (simp [*]; done)), H', ⟨by have := HK1.out; omega⟩, ⟨by (with_reducible repeat (first | apply Kd.R_alloc | apply Kd.R_drewN | apply Kd.R_drew)); exact HO_6.out⟩, ⟨by (with_reducible repeat (first | apply Kd.R_alloc | apply Kd.R_drewN | apply Kd.R_drew)); exact HO_18.out⟩, ⟨by repeat (first | (with_reducible first | exact HB.out | apply below_alloc | apply pw_below_drewN | apply below_drew1) | exact HB.out)⟩⟩
              · replace c11 := Bool.eq_false_iff.mpr c11
                subst c11
                have H1 : (some (([] : List ByteArray), false)) = some (r1, r2) := by rw [if_neg (show ¬ (false = true) by decide)] at H; exact H
                clear H
                have H := H1
                clear H1
                simp only [Option.some.injEq, Prod.mk.injEq] at H
                obtain ⟨rfl, rfl⟩ := H
                have p121 : 0 ≤ (x20_1 : Int) := of_decide_eq_true (by first | (with_reducible assumption) | assumption)
                have q121 : x20_1 < (t118.length : Int) := of_decide_eq_true (by first | (with_reducible assumption) | assumption)
                obtain ⟨ad121, e121, hx121_0⟩ := Kd.at_string (Kd.R_reads' HO_18.out).2.2 x20_1 p121 q121
                cases e121
                replace p121 := eq_true p121
                replace q121 := eq_true q121
                go_wp2_with (first | ((with_reducible refine gate_callee (f := 23) rfl ?_); refine goesL_ (some 25) rfl rfl Tryd.func23 (by kernel_rfl) rfl #[.string (rdOf ByteArray.empty t118 x20_1)] rfl (by (try simp only [List.map_toArray, List.map_cons, List.map_nil]); first | done | rfl | (simp only [List.length_drop, List.length_take]; rfl)) ?_; (with_reducible refine (path_Component.calls k1 (rdOf ByteArray.empty t118 x20_1) false _ A10.out).mono ?_); rintro e w' ⟨rfl, ⟨nd, rfl⟩⟩; refine ⟨_, rfl, ?_⟩))
                go_ret2
                exact ⟨_, by first | rfl | (simp [errW_none, errW_some] <;> rfl) | (simp [*, errW_none, errW_some] <;> rfl), by first | exact Kd.R_nil _ _ _ _ _ | exact Kd.N_nil _ _ _ _ _ | exact Kd.V_nil _ _ _ _ _ | exact Kd.Q_nil _ _ _ _ _ | exact Kd.S_nil _ _ _ _ _, by repeat (first | (with_reducible first | exact HB.out | apply below_alloc | apply pw_below_drewN | apply below_drew1) | exact HB.out)⟩
            · rw [if_neg c9] at H
              exact absurd H (by simp)
          · rw [if_neg c8] at H
            exact absurd H (by simp)
        · rw [if_neg c7] at H
          have c7b0 : decide (x20_1 < (t118.length : Int)) = false := decide_eq_false c7
          clear c7
          simp only [Option.some.injEq, Prod.mk.injEq] at H
          obtain ⟨rfl, rfl⟩ := H
          go_wp2
          go_ret2
          exact ⟨_, by first | rfl | (simp [errW_none, errW_some] <;> rfl) | (simp [*, errW_none, errW_some] <;> rfl), by (with_reducible repeat (first | apply Kd.R_alloc | apply Kd.R_drewN | apply Kd.R_drew)); exact HO_6.out, by repeat (first | (with_reducible first | exact HB.out | apply below_alloc | apply pw_below_drewN | apply below_drew1) | exact HB.out)⟩
  · replace c3 := Bool.eq_false_iff.mpr c3
    subst c3
    have H1 : (some (([] : List ByteArray), false)) = some (r1, r2) := by rw [if_neg (show ¬ (false = true) by decide)] at H; exact H
    clear H
    have H := H1
    clear H1
    simp only [Option.some.injEq, Prod.mk.injEq] at H
    obtain ⟨rfl, rfl⟩ := H
    go_enter Tryd.func41, Tryd.ntmps41
    go_wp2_with (first | ((with_reducible refine gate_callee (f := 54) rfl ?_); refine goesL_ (some 11) rfl rfl Tryd.func54 (by kernel_rfl) rfl #[.string a0, .string (⟨#[47, 47]⟩ : ByteArray)] rfl (by (try simp only [List.map_toArray, List.map_cons, List.map_nil]); first | done | rfl | (simp only [List.length_drop, List.length_take]; rfl)) ?_; (with_reducible refine (strings_CutPrefix.calls a0 (⟨#[47, 47]⟩ : ByteArray) t116 false _ A2.out).mono ?_); rintro e w' ⟨rfl, ⟨nd, rfl⟩⟩; refine ⟨_, rfl, ?_⟩))
    go_ret2
    exact ⟨_, by first | rfl | (simp [errW_none, errW_some] <;> rfl) | (simp [*, errW_none, errW_some] <;> rfl), by first | exact Kd.R_nil _ _ _ _ _ | exact Kd.N_nil _ _ _ _ _ | exact Kd.V_nil _ _ _ _ _ | exact Kd.Q_nil _ _ _ _ _ | exact Kd.S_nil _ _ _ _ _, by repeat (first | (with_reducible first | exact HB.out | apply below_alloc | apply pw_below_drewN | apply below_drew1) | exact HB.out)⟩

/-! ### path_Split: function 22 -/
def path_Split.f (k : Nat) (a0 : ByteArray) : Option (List ByteArray × Int) := (path_directory.f k a0).bind fun bt123 => (if bt123.2 = true then (if (bt123.1.length : Int) < 2 then (some (([] : List ByteArray), 20)) else (some (bt123.1, 0))) else (some (([] : List ByteArray), 20)))
theorem path_Split.mono : ∀ a0 k, LeO (path_Split.f k a0) (path_Split.f (k + 1) a0) := by
  intro a0 k
  unfold path_Split.f
  repeat' first
      | (with_reducible exact path_directory.mono _ _)
      | (with_reducible exact LeO.refl _)
      | (with_reducible exact LeO.none _)
      | (with_reducible refine LeO.ite ?_ ?_)
      | (with_reducible refine LeO.bind ?_ (fun _ => ?_))
      | exact path_directory.mono _ _
      | exact LeO.none _
      | refine LeO.ite ?_ ?_
      | refine LeO.bind ?_ (fun _ => ?_)
set_option maxHeartbeats 8000000 in
set_option maxRecDepth 100000 in
theorem path_Split.calls (k : Nat) (a0 : ByteArray) (r1 : List ByteArray) (r2 : Int) (w : World) (h : path_Split.f k a0 = some (r1, r2)) :
    Calls Tryd.prog 22 #[.string a0] w fun e w' => ∃ v0_ : Value, e = .returned (.tuple #[v0_, .int .i64 r2]) ∧ Kd.R Kd.string 9 w' w.heap.size (fun _ => True) v0_ r1 ∧ Below w.heap.size w w' := by
  have HB := Aside0.mk (Below.refl w.heap.size w)
  have H : ((path_directory.f k a0).bind fun bt123 => (if bt123.2 = true then (if (bt123.1.length : Int) < 2 then (some (([] : List ByteArray), 20)) else (some (bt123.1, 0))) else (some (([] : List ByteArray), 20)))) = some (r1, r2) := h
  clear h
  replace H := Option.bind_eq_some_iff.mp H
  obtain ⟨⟨t123, t124⟩, A20, H⟩ := H
  replace H : (if t124 = true then (if (t123.length : Int) < 2 then (some (([] : List ByteArray), 20)) else (some (t123, 0))) else (some (([] : List ByteArray), 20))) = some (r1, r2) := H
  have A2 := Aside0.mk A20
  clear A20
  by_cases c3 : t124 = true
  · subst c3
    have H1 : (if (t123.length : Int) < 2 then (some (([] : List ByteArray), 20)) else (some (t123, 0))) = some (r1, r2) := by rw [if_pos rfl] at H; exact H
    clear H
    have H := H1
    clear H1
    by_cases c4 : (t123.length : Int) < 2
    · rw [if_pos c4] at H
      have c4b0 : decide ((t123.length : Int) < 2) = true := decide_eq_true c4
      have c4b1 : decide (t123.length < 2) = true := decide_eq_true (by omega)
      clear c4
      simp only [Option.some.injEq, Prod.mk.injEq] at H
      obtain ⟨rfl, rfl⟩ := H
      go_enter Tryd.func22, Tryd.ntmps22
      go_wp2_with (first | ((with_reducible refine gate_callee (f := 41) rfl ?_); refine goesL_ (some 8) rfl rfl Tryd.func41 (by kernel_rfl) rfl #[.string a0] rfl (by (try simp only [List.map_toArray, List.map_cons, List.map_nil]); first | done | rfl | (simp only [List.length_drop, List.length_take]; rfl)) ?_; (with_reducible refine (path_directory.calls k a0 t123 true _ A2.out).mono ?_); rintro e w5 ⟨v125, rfl, ho0, hb⟩; refine ⟨_, rfl, ?_⟩; have n0_ := Aside0.mk (Kd.R_lower ho0 (below_size (by repeat (first | (with_reducible first | exact HB.out | apply below_alloc | apply pw_below_drewN | apply below_drew1) | exact HB.out)))); have n1_ := Aside0.mk (below_step (by repeat (first | (with_reducible first | exact HB.out | apply below_alloc | apply pw_below_drewN | apply below_drew1) | exact HB.out)) hb); clear HB; have HO126 := n0_; have HB := n1_; clear n0_ n1_; (try clear hb); (try clear hb2); (try clear hk); (try clear hi); (try clear ho0); obtain ⟨Ao6, co6, eo6⟩ := Kd.R_slice HO126.out; subst eo6))
      go_ret2
      exact ⟨_, by first | rfl | (simp [errW_none, errW_some] <;> rfl) | (simp [*, errW_none, errW_some] <;> rfl), by first | exact Kd.R_nil _ _ _ _ _ | exact Kd.N_nil _ _ _ _ _ | exact Kd.V_nil _ _ _ _ _ | exact Kd.Q_nil _ _ _ _ _ | exact Kd.S_nil _ _ _ _ _, by repeat (first | (with_reducible first | exact HB.out | apply below_alloc | apply pw_below_drewN | apply below_drew1) | exact HB.out)⟩
    · rw [if_neg c4] at H
      have c4b0 : decide ((t123.length : Int) < 2) = false := decide_eq_false c4
      have c4b1 : decide (t123.length < 2) = false := decide_eq_false (by omega)
      clear c4
      simp only [Option.some.injEq, Prod.mk.injEq] at H
      obtain ⟨rfl, rfl⟩ := H
      go_enter Tryd.func22, Tryd.ntmps22
      go_wp2_with (first | ((with_reducible refine gate_callee (f := 41) rfl ?_); refine goesL_ (some 8) rfl rfl Tryd.func41 (by kernel_rfl) rfl #[.string a0] rfl (by (try simp only [List.map_toArray, List.map_cons, List.map_nil]); first | done | rfl | (simp only [List.length_drop, List.length_take]; rfl)) ?_; (with_reducible refine (path_directory.calls k a0 t123 true _ A2.out).mono ?_); rintro e w7 ⟨v125, rfl, ho0, hb⟩; refine ⟨_, rfl, ?_⟩; have n0_ := Aside0.mk (Kd.R_lower ho0 (below_size (by repeat (first | (with_reducible first | exact HB.out | apply below_alloc | apply pw_below_drewN | apply below_drew1) | exact HB.out)))); have n1_ := Aside0.mk (below_step (by repeat (first | (with_reducible first | exact HB.out | apply below_alloc | apply pw_below_drewN | apply below_drew1) | exact HB.out)) hb); clear HB; have HO126 := n0_; have HB := n1_; clear n0_ n1_; (try clear hb); (try clear hb2); (try clear hk); (try clear hi); (try clear ho0); obtain ⟨Ao8, co8, eo8⟩ := Kd.R_slice HO126.out; subst eo8))
      go_ret2
      exact ⟨_, by first | rfl | (simp [errW_none, errW_some] <;> rfl) | (simp [*, errW_none, errW_some] <;> rfl), by (with_reducible repeat (first | apply Kd.R_alloc | apply Kd.R_drewN | apply Kd.R_drew)); exact HO126.out, by repeat (first | (with_reducible first | exact HB.out | apply below_alloc | apply pw_below_drewN | apply below_drew1) | exact HB.out)⟩
  · replace c3 := Bool.eq_false_iff.mpr c3
    subst c3
    have H1 : (some (([] : List ByteArray), 20)) = some (r1, r2) := by rw [if_neg (show ¬ (false = true) by decide)] at H; exact H
    clear H
    have H := H1
    clear H1
    simp only [Option.some.injEq, Prod.mk.injEq] at H
    obtain ⟨rfl, rfl⟩ := H
    go_enter Tryd.func22, Tryd.ntmps22
    go_wp2_with (first | ((with_reducible refine gate_callee (f := 41) rfl ?_); refine goesL_ (some 8) rfl rfl Tryd.func41 (by kernel_rfl) rfl #[.string a0] rfl (by (try simp only [List.map_toArray, List.map_cons, List.map_nil]); first | done | rfl | (simp only [List.length_drop, List.length_take]; rfl)) ?_; (with_reducible refine (path_directory.calls k a0 t123 false _ A2.out).mono ?_); rintro e w9 ⟨v125, rfl, ho0, hb⟩; refine ⟨_, rfl, ?_⟩; have n0_ := Aside0.mk (Kd.R_lower ho0 (below_size (by repeat (first | (with_reducible first | exact HB.out | apply below_alloc | apply pw_below_drewN | apply below_drew1) | exact HB.out)))); have n1_ := Aside0.mk (below_step (by repeat (first | (with_reducible first | exact HB.out | apply below_alloc | apply pw_below_drewN | apply below_drew1) | exact HB.out)) hb); clear HB; have HO126 := n0_; have HB := n1_; clear n0_ n1_; (try clear hb); (try clear hb2); (try clear hk); (try clear hi); (try clear ho0)))
    go_ret2
    exact ⟨_, by first | rfl | (simp [errW_none, errW_some] <;> rfl) | (simp [*, errW_none, errW_some] <;> rfl), by first | exact Kd.R_nil _ _ _ _ _ | exact Kd.N_nil _ _ _ _ _ | exact Kd.V_nil _ _ _ _ _ | exact Kd.Q_nil _ _ _ _ _ | exact Kd.S_nil _ _ _ _ _, by repeat (first | (with_reducible first | exact HB.out | apply below_alloc | apply pw_below_drewN | apply below_drew1) | exact HB.out)⟩

/-! ### bytes_IndexByte: function 51: an external -/
def bytes_IndexByte.f (l0 : List Int) (a1 : Int) : Option (Int) := if 0 < l0.length then some (Lib.indexByte (Lib.bytesOf l0) a1.toNat.toUInt8) else none
theorem bytes_addr {w : World} {a : Addr} {v : Value} (h : w.cell? a = some v) : a = ⟨a.block, a.off, none⟩ := by
  obtain ⟨b, o, e⟩ := a
  cases e with
  | none => rfl
  | some e =>
    unfold World.cell? at h
    split at h <;> simp at h
theorem bytes_cells {w : World} {ad : Addr} {l : List Int} (h0 : 0 < l.length) (hr : Kd.C (Kd.int .u8) w (some ad) l.length l) : ad = ⟨ad.block, ad.off, none⟩ ∧ ∀ j, j < l.length → w.cell? ⟨ad.block, ad.off + j, none⟩ = some (.int .u8 (l.getD j 0)) := by
  obtain ⟨ad', e, hcs⟩ := hr.2.2 h0
  injection e with e
  subst e
  have hcell : ∀ (j : Nat) x, l[j]? = some x → w.cell? (ad.add j) = some (.int .u8 x) := by
    intro j x hx
    obtain ⟨c, _, hK, hc⟩ := hcs j x hx
    have e : c = [Value.int .u8 x] := hK
    subst e
    have := hc 0 (.int .u8 x) rfl
    rwa [show j * (Kd.int .u8).sz + 0 = j from by show j * 1 + 0 = j; omega] at this
  have hz := hcell 0 l[0] (List.getElem?_eq_getElem h0)
  have hz' : w.cell? ad = some (.int .u8 l[0]) := by simpa [Addr.add] using hz
  have ea := bytes_addr hz'
  refine ⟨ea, fun j hj => ?_⟩
  have := hcell j l[j] (List.getElem?_eq_getElem hj)
  rw [ea] at this
  rw [List.getD_eq_getElem?_getD, List.getElem?_eq_getElem hj]
  by_cases hj0 : j = 0
  · subst hj0
    simpa [Addr.add] using this
  · simpa [Addr.add, hj0] using this
theorem bytes_IndexByte.calls (A0 : Option Addr) (c0 : Nat) (l0 : List Int) (a1 : Int) (r : Int) (w : World) (hr0 : Kd.C (Kd.int .u8) w A0 l0.length l0) (hc0 : l0.length ≤ c0) (h : bytes_IndexByte.f l0 a1 = some r) :
    Calls Tryd.prog 51 #[.slice A0 l0.length c0, .int .u8 a1] w fun e w' => e = .returned (.int .i64 r) ∧ Drawn0 w w' := by
  unfold bytes_IndexByte.f at h
  split at h
  · rename_i h0
    obtain rfl := Option.some.inj h
    obtain ⟨ad, rfl, _⟩ := hr0.2.2 h0
    obtain ⟨ea, hc⟩ := bytes_cells h0 hr0
    rw [ea]
    refine (Tryd.bytes_IndexByte ad.block ad.off l0.length c0 l0 a1 w rfl hc).mono ?_
    rintro e w' ⟨rfl, rfl⟩
    exact ⟨rfl, Drawn0.refl _⟩
  · cases h

/-! ### filetype_link: function 38 -/
def filetype_link.f (l0 : List Int) : Option (Bool) := if (l0.length : Int) > 0 then (if (l0.length : Int) ≤ 200 then ((bytes_IndexByte.f l0 0).bind fun t127 => (if t127 < 0 then ((bytes_IndexByte.f l0 10).bind fun t128 => (some (decide (t128 < 0)))) else (some false))) else (some false)) else (some false)
set_option maxHeartbeats 8000000 in
set_option maxRecDepth 100000 in
theorem filetype_link.calls (A0 : Option Addr) (c0 : Nat) (l0 : List Int) (r : Bool) (w : World) (hr0 : Kd.C (Kd.int .u8) w A0 l0.length l0) (hc0 : l0.length ≤ c0) (h : filetype_link.f l0 = some r) :
    Calls Tryd.prog 38 #[.slice A0 l0.length c0] w fun e w' => e = .returned (.bool r) ∧ Drawn0 w w' := by
  have HR0 := Aside0.mk hr0
  have HC0 := Aside0.mk hc0
  clear hr0 hc0
  have H : (if (l0.length : Int) > 0 then (if (l0.length : Int) ≤ 200 then ((bytes_IndexByte.f l0 0).bind fun t127 => (if t127 < 0 then ((bytes_IndexByte.f l0 10).bind fun t128 => (some (decide (t128 < 0)))) else (some false))) else (some false)) else (some false)) = some r := h
  clear h
  by_cases c2 : (l0.length : Int) > 0
  · rw [if_pos c2] at H
    have c2b0 : decide (0 < (l0.length : Int)) = true := decide_eq_true c2
    have c2b1 : decide (0 < l0.length) = true := decide_eq_true (by omega)
    clear c2
    by_cases c3 : (l0.length : Int) ≤ 200
    · rw [if_pos c3] at H
      have c3b0 : decide ((l0.length : Int) ≤ 200) = true := decide_eq_true c3
      have c3b1 : decide (l0.length ≤ 200) = true := decide_eq_true (by omega)
      clear c3
      replace H := Option.bind_eq_some_iff.mp H
      obtain ⟨t127, A40, H⟩ := H
      replace H : (if t127 < 0 then ((bytes_IndexByte.f l0 10).bind fun t128 => (some (decide (t128 < 0)))) else (some false)) = some r := H
      have A4 := Aside0.mk A40
      clear A40
      by_cases c5 : t127 < 0
      · rw [if_pos c5] at H
        have c5b0 : decide (t127 < 0) = true := decide_eq_true c5
        clear c5
        replace H := Option.bind_eq_some_iff.mp H
        obtain ⟨t128, A60, H⟩ := H
        replace H : (some (decide (t128 < 0))) = some r := H
        have A6 := Aside0.mk A60
        clear A60
        obtain rfl := Option.some.inj H
        go_enter Tryd.func38, Tryd.ntmps38
        go_wp2_with (first | (go_at_call 51; (with_reducible refine (bytes_IndexByte.calls _ _ l0 0 t127 _ ?side1 ?side2 A4.out).mono ?_); (case side1 => repeat (first | exact HR0.out | (with_reducible refine Kd.C_alloc ?_ _) | (with_reducible refine Kd.C_drewN ?_ _) | (with_reducible refine Kd.C_drew ?_))); (case side2 => exact HC0.out); rintro e w' ⟨rfl, ⟨nd, rfl⟩⟩) | (go_at_call 51; (with_reducible refine (bytes_IndexByte.calls _ _ l0 10 t128 _ ?side1 ?side2 A6.out).mono ?_); (case side1 => repeat (first | exact HR0.out | (with_reducible refine Kd.C_alloc ?_ _) | (with_reducible refine Kd.C_drewN ?_ _) | (with_reducible refine Kd.C_drew ?_))); (case side2 => exact HC0.out); rintro e w' ⟨rfl, ⟨nd, rfl⟩⟩))
        go_ret
        exact ⟨by first | rfl | (simp; done) | (simp [*]; done), by repeat (first | exact Drawn0.refl _ | apply Drawn0.step)⟩
      · rw [if_neg c5] at H
        have c5b0 : decide (t127 < 0) = false := decide_eq_false c5
        clear c5
        obtain rfl := Option.some.inj H
        go_enter Tryd.func38, Tryd.ntmps38
        go_wp2_with (first | (go_at_call 51; (with_reducible refine (bytes_IndexByte.calls _ _ l0 0 t127 _ ?side1 ?side2 A4.out).mono ?_); (case side1 => repeat (first | exact HR0.out | (with_reducible refine Kd.C_alloc ?_ _) | (with_reducible refine Kd.C_drewN ?_ _) | (with_reducible refine Kd.C_drew ?_))); (case side2 => exact HC0.out); rintro e w' ⟨rfl, ⟨nd, rfl⟩⟩))
        go_ret
        exact ⟨by first | rfl | (simp; done) | (simp [*]; done), by repeat (first | exact Drawn0.refl _ | apply Drawn0.step)⟩
    · rw [if_neg c3] at H
      have c3b0 : decide ((l0.length : Int) ≤ 200) = false := decide_eq_false c3
      have c3b1 : decide (l0.length ≤ 200) = false := decide_eq_false (by omega)
      clear c3
      obtain rfl := Option.some.inj H
      go_enter Tryd.func38, Tryd.ntmps38
      go_wp2
      go_ret
      exact ⟨by first | rfl | (simp; done) | (simp [*]; done), by repeat (first | exact Drawn0.refl _ | apply Drawn0.step)⟩
  · rw [if_neg c2] at H
    have c2b0 : decide (0 < (l0.length : Int)) = false := decide_eq_false c2
    have c2b1 : decide (0 < l0.length) = false := decide_eq_false (by omega)
    clear c2
    obtain rfl := Option.some.inj H
    go_enter Tryd.func38, Tryd.ntmps38
    go_wp2
    go_ret
    exact ⟨by first | rfl | (simp; done) | (simp [*]; done), by repeat (first | exact Drawn0.refl _ | apply Drawn0.step)⟩

/-! ### strings_Join: function 53: an external -/
theorem join_addr {w : World} {ad : Addr} {v : Value} (h : w.cell? ad = some v) : ad = ⟨ad.block, ad.off, none⟩ := by
  obtain ⟨b, o, s⟩ := ad
  cases s with
  | none => rfl
  | some s =>
    unfold World.cell? at h
    split at h <;> simp at h
def strings_Join.f (l0 : List ByteArray) (a1 : ByteArray) : Option (ByteArray) := if l0.length ≤ 140737488355328 ∧ (Lib.join (l0.map (·.data.toList)) a1.data.toList).length ≤ 140737488355328 then some ⟨(Lib.join (l0.map (·.data.toList)) a1.data.toList).toArray⟩ else none
theorem strings_Join.calls (A0 : Option Addr) (c0 : Nat) (l0 : List ByteArray) (a1 : ByteArray) (r : ByteArray) (w : World) (hr0 : Kd.C Kd.string w A0 l0.length l0) (hc0 : l0.length ≤ c0) (h : strings_Join.f l0 a1 = some r) :
    Calls Tryd.prog 53 #[.slice A0 l0.length c0, .string a1] w fun e w' => e = .returned (.string r) ∧ Below w.heap.size w w' := by
  unfold strings_Join.f at h
  split at h
  · rename_i hh
    obtain ⟨hN, hlen⟩ := hh
    obtain rfl := Option.some.inj h
    rcases Nat.eq_zero_or_pos l0.length with h0 | h0
    · obtain rfl := List.eq_nil_of_length_eq_zero h0
      refine (Tryd.strings_Join_none A0 c0 a1 w).mono ?_
      rintro e w' ⟨rfl, rfl⟩
      exact ⟨rfl, Below.refl _ _⟩
    · obtain ⟨ad, rfl, hcs⟩ := hr0.2.2 h0
      have hcell : ∀ (j : Nat) x, l0[j]? = some x → w.cell? (ad.add j) = some (.string x) := by
        intro j x hx
        obtain ⟨c, _, hK, hc⟩ := hcs j x hx
        have e : c = [Value.string x] := hK
        subst e
        have := hc 0 (.string x) rfl
        rwa [show j * Kd.string.sz + 0 = j from by show j * 1 + 0 = j; omega] at this
      obtain ⟨x, xs, rfl⟩ : ∃ x xs, l0 = x :: xs := by
        cases l0 with
        | nil => simp at h0
        | cons x xs => exact ⟨x, xs, rfl⟩
      have h1 := hcell 0 x rfl
      have h1' : w.cell? ad = some (.string x) := by simpa [Addr.add] using h1
      have ea := join_addr h1'
      have hbk := World.block_lt_of_cell? w ad h1'
      rw [ea]
      refine (Tryd.strings_Join ad.block ad.off c0 (x :: xs) a1 w (fun j y hy => ?_) hbk hN hc0 hlen).mono ?_
      · have := hcell j y hy
        rw [ea] at this
        by_cases hj : j = 0
        · subst hj
          simpa [Addr.add] using this
        · simpa [Addr.add, hj] using this
      · rintro e w' ⟨rfl, hb⟩
        exact ⟨rfl, hb⟩
  · cases h

/-! ### path_Join: function 40 -/
def path_Join.l0 : Nat → List ByteArray → List ByteArray → Int → Int → Option (ByteArray × Int)
  | 0, _, _, _, _ => none
  | k + 1, x0, x9, x10, x11 => if x11 < x10 then (if 0 ≤ x11 then (if x11 < (x9.length : Int) then ((path_Component.f k (rdOf ByteArray.empty x9 x11)).bind fun t130 => (if t130 = true then (path_Join.l0 k x0 x9 x10 (wrap64 (x11 + 1))) else (some ((⟨#[]⟩ : ByteArray), 21)))) else (none)) else (none)) else ((strings_Join.f x0 (⟨#[47]⟩ : ByteArray)).bind fun t131 => (if 2 + t131.size ≤ 9223372036854775807 then (some ((⟨#[47, 47]⟩ : ByteArray) ++ t131, 0)) else (none)))
def path_Join.f (k : Nat) (l0 : List ByteArray) : Option (ByteArray × Int) := if (l0.length : Int) < 2 then (some ((⟨#[]⟩ : ByteArray), 21)) else (path_Join.l0 k l0 l0 (l0.length : Int) 0)
theorem path_Join.mono_l : ∀ k, (∀ y0 y1 y2 y3, LeO (path_Join.l0 k y0 y1 y2 y3) (path_Join.l0 (k + 1) y0 y1 y2 y3))
  | 0 => fun _ _ _ _ r h => by simp [path_Join.l0] at h
  | k + 1 => by
    have ih0 := path_Join.mono_l k
    · intro y0 y1 y2 y3
      unfold path_Join.l0
      repeat' first
      | (with_reducible exact ih0 _ _ _ _)
      | (with_reducible exact path_Component.mono _ _)
      | (with_reducible exact LeO.refl _)
      | (with_reducible exact LeO.none _)
      | (with_reducible refine LeO.ite ?_ ?_)
      | (with_reducible refine LeO.bind ?_ (fun _ => ?_))
      | exact ih0 _ _ _ _
      | exact path_Component.mono _ _
      | exact LeO.none _
      | refine LeO.ite ?_ ?_
      | refine LeO.bind ?_ (fun _ => ?_)
theorem path_Join.mono : ∀ a0 k, LeO (path_Join.f k a0) (path_Join.f (k + 1) a0) := by
  intro a0 k
  have ih0 := path_Join.mono_l k
  unfold path_Join.f
  repeat' first
      | (with_reducible exact ih0 _ _ _ _)
      | (with_reducible exact path_Component.mono _ _)
      | (with_reducible exact LeO.refl _)
      | (with_reducible exact LeO.none _)
      | (with_reducible refine LeO.ite ?_ ?_)
      | (with_reducible refine LeO.bind ?_ (fun _ => ?_))
      | exact ih0 _ _ _ _
      | exact path_Component.mono _ _
      | exact LeO.none _
      | refine LeO.ite ?_ ?_
      | refine LeO.bind ?_ (fun _ => ?_)
set_option maxHeartbeats 8000000 in
set_option maxRecDepth 100000 in
theorem path_Join.calls (k : Nat) (A0 : Option Addr) (c0 : Nat) (l0 : List ByteArray) (r1 : ByteArray) (r2 : Int) (w : World) (hr0 : Kd.C Kd.string w A0 l0.length l0) (hc0 : l0.length ≤ c0) (h : path_Join.f k l0 = some (r1, r2)) :
    Calls Tryd.prog 40 #[.slice A0 l0.length c0] w fun e w' => e = .returned (.tuple #[.string r1, .int .i64 r2]) ∧ Below w.heap.size w w' := by
  have HR0 := Aside0.mk hr0
  have HC0 := Aside0.mk hc0
  clear hr0 hc0
  have HB := Aside0.mk (Below.refl w.heap.size w)
  have H : (if (l0.length : Int) < 2 then (some ((⟨#[]⟩ : ByteArray), 21)) else (path_Join.l0 k l0 l0 (l0.length : Int) 0)) = some (r1, r2) := h
  clear h
  by_cases c2 : (l0.length : Int) < 2
  · rw [if_pos c2] at H
    have c2b0 : decide ((l0.length : Int) < 2) = true := decide_eq_true c2
    have c2b1 : decide (l0.length < 2) = true := decide_eq_true (by omega)
    clear c2
    simp only [Option.some.injEq, Prod.mk.injEq] at H
    obtain ⟨rfl, rfl⟩ := H
    go_enter Tryd.func40, Tryd.ntmps40
    go_wp2
    go_ret2
    exact ⟨by first | rfl | (simp [errW_none, errW_some] <;> rfl) | (simp [*, errW_none, errW_some] <;> rfl), by repeat (first | (with_reducible first | exact HB.out | apply below_alloc | apply pw_below_drewN | apply below_drew1) | exact HB.out)⟩
  · rw [if_neg c2] at H
    have c2b0 : decide ((l0.length : Int) < 2) = false := decide_eq_false c2
    have c2b1 : decide (l0.length < 2) = false := decide_eq_false (by omega)
    clear c2
    have H' := Aside0.mk H
    clear H
    go_enter Tryd.func40, Tryd.ntmps40
    go_wp2
    go_loopg [11] k (fun kq v11 w' => ∃ (x11_1 : Int), v11 = .int .i64 x11_1 ∧ Aside0 (path_Join.l0 kq l0 l0 (l0.length : Int) x11_1 = some (r1, r2)) ∧ Aside0 (kq ≤ k) ∧ Aside0 (Below w.heap.size w w'))
    case atStart => exact ⟨(0), (by first | rfl | (simp; done) | (simp [*]; done)), H', ⟨Nat.le_refl _⟩, ⟨by repeat (first | (with_reducible first | exact HB.out | apply below_alloc | apply pw_below_drewN | apply below_drew1) | exact HB.out)⟩⟩
    case round =>
      clear H'
      try clear c2
      try clear c2b0
      try clear c2b1
      try clear p2
      obtain ⟨x11_1, rfl, HA, HK1, HB⟩ := hrel
      cases gk with
      | zero => exact absurd HA.out (by simp [path_Join.l0])
      | succ k1 =>
        have H := HA.out
        clear HA
        simp only [path_Join.l0] at H
        by_cases c3 : x11_1 < (l0.length : Int)
        · rw [if_pos c3] at H
          have c3b0 : decide (x11_1 < (l0.length : Int)) = true := decide_eq_true c3
          clear c3
          by_cases c4 : 0 ≤ x11_1
          · rw [if_pos c4] at H
            have c4b0 : decide (0 ≤ x11_1) = true := decide_eq_true c4
            clear c4
            by_cases c5 : x11_1 < (l0.length : Int)
            · rw [if_pos c5] at H
              have c5b0 : decide (x11_1 < (l0.length : Int)) = true := decide_eq_true c5
              clear c5
              replace H := Option.bind_eq_some_iff.mp H
              obtain ⟨t130, A60, H⟩ := H
              replace H : (if t130 = true then (path_Join.l0 k1 l0 l0 (l0.length : Int) (wrap64 (x11_1 + 1))) else (some ((⟨#[]⟩ : ByteArray), 21))) = some (r1, r2) := H
              have A6 := Aside0.mk A60
              clear A60
              by_cases c7 : t130 = true
              · subst c7
                have H1 : (path_Join.l0 k1 l0 l0 (l0.length : Int) (wrap64 (x11_1 + 1))) = some (r1, r2) := by rw [if_pos rfl] at H; exact H
                clear H
                have H := H1
                clear H1
                have H' := Aside0.mk H
                clear H
                have p129 : 0 ≤ (x11_1 : Int) := of_decide_eq_true (by first | (with_reducible assumption) | assumption)
                have q129 : x11_1 < (l0.length : Int) := of_decide_eq_true (by first | (with_reducible assumption) | assumption)
                obtain ⟨ad129, e129, hx129_0⟩ := Kd.at_string HR0.out x11_1 p129 q129
                cases e129
                replace hx129_0 := (HB.out.cell (World.block_lt_of_cell? w _ hx129_0)).trans hx129_0
                replace p129 := eq_true p129
                replace q129 := eq_true q129
                go_wp2_with (first | ((with_reducible refine gate_callee (f := 23) rfl ?_); refine goesL_ (some 16) rfl rfl Tryd.func23 (by kernel_rfl) rfl #[.string (rdOf ByteArray.empty l0 x11_1)] rfl (by (try simp only [List.map_toArray, List.map_cons, List.map_nil]); first | done | rfl | (simp only [List.length_drop, List.length_take]; rfl)) ?_; (with_reducible refine (path_Component.calls k1 (rdOf ByteArray.empty l0 x11_1) true _ A6.out).mono ?_); rintro e w' ⟨rfl, ⟨nd, rfl⟩⟩; refine ⟨_, rfl, ?_⟩))
                go_roundg k1
                case measure => have := HK1.out; omega
                case rel => exact ⟨(wrap64 (x11_1 + 1)), (by first | rfl | (simp; done) | (simp [*]; done)), H', ⟨by have := HK1.out; omega⟩, ⟨by repeat (first | (with_reducible first | exact HB.out | apply below_alloc | apply pw_below_drewN | apply below_drew1) | exact HB.out)⟩⟩
              · replace c7 := Bool.eq_false_iff.mpr c7
                subst c7
                have H1 : (some ((⟨#[]⟩ : ByteArray), 21)) = some (r1, r2) := by rw [if_neg (show ¬ (false = true) by decide)] at H; exact H
                clear H
                have H := H1
                clear H1
                simp only [Option.some.injEq, Prod.mk.injEq] at H
                obtain ⟨rfl, rfl⟩ := H
                have p129 : 0 ≤ (x11_1 : Int) := of_decide_eq_true (by first | (with_reducible assumption) | assumption)
                have q129 : x11_1 < (l0.length : Int) := of_decide_eq_true (by first | (with_reducible assumption) | assumption)
                obtain ⟨ad129, e129, hx129_0⟩ := Kd.at_string HR0.out x11_1 p129 q129
                cases e129
                replace hx129_0 := (HB.out.cell (World.block_lt_of_cell? w _ hx129_0)).trans hx129_0
                replace p129 := eq_true p129
                replace q129 := eq_true q129
                go_wp2_with (first | ((with_reducible refine gate_callee (f := 23) rfl ?_); refine goesL_ (some 16) rfl rfl Tryd.func23 (by kernel_rfl) rfl #[.string (rdOf ByteArray.empty l0 x11_1)] rfl (by (try simp only [List.map_toArray, List.map_cons, List.map_nil]); first | done | rfl | (simp only [List.length_drop, List.length_take]; rfl)) ?_; (with_reducible refine (path_Component.calls k1 (rdOf ByteArray.empty l0 x11_1) false _ A6.out).mono ?_); rintro e w' ⟨rfl, ⟨nd, rfl⟩⟩; refine ⟨_, rfl, ?_⟩))
                go_ret2
                exact ⟨by first | rfl | (simp [errW_none, errW_some] <;> rfl) | (simp [*, errW_none, errW_some] <;> rfl), by repeat (first | (with_reducible first | exact HB.out | apply below_alloc | apply pw_below_drewN | apply below_drew1) | exact HB.out)⟩
            · rw [if_neg c5] at H
              exact absurd H (by simp)
          · rw [if_neg c4] at H
            exact absurd H (by simp)
        · rw [if_neg c3] at H
          have c3b0 : decide (x11_1 < (l0.length : Int)) = false := decide_eq_false c3
          clear c3
          replace H := Option.bind_eq_some_iff.mp H
          obtain ⟨t131, A80, H⟩ := H
          replace H : (if 2 + t131.size ≤ 9223372036854775807 then (some ((⟨#[47, 47]⟩ : ByteArray) ++ t131, 0)) else (none)) = some (r1, r2) := H
          have A8 := Aside0.mk A80
          clear A80
          by_cases c9 : 2 + t131.size ≤ 9223372036854775807
          · rw [if_pos c9] at H
            have c9b0 := eq_true c9
            have c9b1 : decide (2 + t131.size ≤ 9223372036854775807) = true := decide_eq_true c9
            try have c9b2 : (9223372036854775807 < 2 + t131.size) = False := eq_false (Nat.not_lt.2 c9)
            simp only [Option.some.injEq, Prod.mk.injEq] at H
            obtain ⟨rfl, rfl⟩ := H
            go_wp2_with (first | ((with_reducible refine gate_callee (f := 53) rfl ?_); refine goesL_ (some 20) rfl rfl Tryd.func53 (by kernel_rfl) rfl #[.slice A0 l0.length c0, .string (⟨#[47]⟩ : ByteArray)] rfl (by (try simp only [List.map_toArray, List.map_cons, List.map_nil]); first | done | rfl | (simp only [List.length_drop, List.length_take]; rfl)) ?_; (with_reducible refine (strings_Join.calls _ _ l0 (⟨#[47]⟩ : ByteArray) t131 _ ?side1 ?side2 A8.out).mono ?_); (case side1 => repeat (first | exact (Kd.C_below HR0.out HB.out) | (with_reducible refine Kd.C_alloc ?_ _) | (with_reducible refine Kd.C_drewN ?_ _) | (with_reducible refine Kd.C_drew ?_))); (case side2 => exact HC0.out); rintro e w10 ⟨rfl, hb⟩; refine ⟨_, rfl, ?_⟩; have n0_ := Aside0.mk (below_step (by repeat (first | (with_reducible first | exact HB.out | apply below_alloc | apply pw_below_drewN | apply below_drew1) | exact HB.out)) hb); clear HB; have HB := n0_; clear n0_; (try clear hb); (try clear hb2); (try clear hk); (try clear hi)))
            go_ret2
            exact ⟨by first | rfl | (simp [errW_none, errW_some] <;> rfl) | (simp [*, errW_none, errW_some] <;> rfl), by repeat (first | (with_reducible first | exact HB.out | apply below_alloc | apply pw_below_drewN | apply below_drew1) | exact HB.out)⟩
          · rw [if_neg c9] at H
            exact absurd H (by simp)

/-! ### filetype_linkS: function 106: an external -/
def filetype_linkS.f (a0 : ByteArray) : Option Bool := if a0.size ≤ 9223372036854775807 then filetype_link.f (bytesOf a0) else none
theorem linkS_some {s : ByteArray} {r : Bool} (h : filetype_linkS.f s = some r) : s.size ≤ 9223372036854775807 ∧ filetype_link.f (bytesOf s) = some r := by
  unfold filetype_linkS.f at h
  split at h
  · exact ⟨by assumption, h⟩
  · cases h
theorem wpList_conv_at {P : Program} {w : World} {ops : Array Oper} {rest : List Oper} {o : Oper} {a : Act} {Q : Exit → Act → World → Prop} (hg : o.guard = none) (src dst e : TypeId) (x : Operand) (s : ByteArray) (hop : o.op = .convert src dst x) {u : TypeDesc}
    (hs : P.underlying src = some u) (hd : P.underlying dst = some (.slice e)) (he : P.underlying e = some (.int .u8)) (hx : a.eval x = .string s) (hz : s.size ≤ 9223372036854775807)
    (hK : ∀ w1 A c, Below w.heap.size w w1 → Kd.C (Kd.int .u8) w1 A (bytesOf s).length (bytesOf s) → (bytesOf s).length ≤ c → wpList P ops Q rest (a.put o.dst (.slice A (bytesOf s).length c)) w1) : wpList P ops Q (o :: rest) a w := by
  refine wpList_plain hg fun K' hK' => ?_
  have hrun := Lib.run_convert_string_bytes (P := P) w src dst e s hs hd he
  have hb : Below w.heap.size w (Lib.bytesWorld w e s) := bytes_below (Below.refl _ _) (Nat.le_refl _) e s
  have hl := bytesOf_length s
  have hC : Kd.C (Kd.int .u8) (Lib.bytesWorld w e s) (some ⟨w.heap.size, 0, none⟩) (bytesOf s).length (bytesOf s) := by
    have := bytes_reads w e s hz
    rw [← hl] at this
    exact Kd.C_of_reads (enc := Value.int .u8) (d := (0 : Int)) (h1 := fun _ => rfl) (readsInt_of.1 this)
  have hc : (bytesOf s).length ≤ grownCap w s.size 0 e := by
    rw [hl]
    exact grownCap_ge _ _ _ _
  have h2 := hK _ _ _ hb hC hc
  rw [hl] at h2
  unfold Oper.wp
  simp [execOp, hop, hx, hrun, Result.andThen]
  exact hK' _ _ h2
theorem linkS_step (s : ByteArray) (r : Bool) {w w1 : World} {A : Option Addr} {c : Nat} (hb : Below w.heap.size w w1) (hC : Kd.C (Kd.int .u8) w1 A (bytesOf s).length (bytesOf s)) (hc : (bytesOf s).length ≤ c) (h : filetype_linkS.f s = some r) :
    Calls Tryd.prog 38 #[.slice A (bytesOf s).length c] w1 fun e w' => e = .returned (.bool r) ∧ Below w.heap.size w w' :=
  (filetype_link.calls A c (bytesOf s) r w1 hC hc (linkS_some h).2).mono fun e w' => fun ⟨he, hd⟩ => ⟨he, below_step hb hd.below⟩

end Go.Proofs.YtolmcdglemkchaaDoor.P

/-
  How a law's arguments, read as data by the row, become the lists and numbers that the printed functions speak of: kind by kind (numbers, bools, strings, slices, structs), each with the form's own reach. No project text.
-/
import Derived.WalkKit
import Derived.SizedLaws
import Derived.ChangeArms
import Derived.DataReads
import Derived.DataElems
import Derived.WideShapes
import Derived.Test.YthclkdplihchjaaDoorWWords
namespace Go.Proofs.YthclkdplihchjaaDoor.Args
open Go.RowKit Go.Proofs.YthclkdplihchjaaDoorW.PrintWords
set_option linter.unusedVariables false
set_option linter.unusedSimpArgs false

/-- A string's bytes lie within the form's reach. -/
def WfS (s : ByteArray) : Prop := s.size ≤ 140737488351232
/-- A number is of its kind. -/
def WfI (k : IntKind) (n : Int) : Prop := (Lit.int k n).wf = true
def WfB (_ : Bool) : Prop := True
/-- A slice takes at most the reach. -/
def WfL (b : Nat) {α : Type} (wf : α → Prop) (xs : List α) : Prop := xs.length * b ≤ 140737488351232 ∧ ∀ x ∈ xs, wf x

theorem wfI64 {n : Int} (h : WfI .i64 n) : -9223372036854775808 ≤ n ∧ n ≤ 9223372036854775807 := by
  unfold WfI at h
  simp [Lit.wf, IntKind.min, IntKind.max, IntKind.signed, IntKind.bits] at h
  omega
theorem wfU8 {n : Int} (h : WfI .u8 n) : 0 ≤ n ∧ n ≤ 255 := by
  unfold WfI at h
  simp [Lit.wf, IntKind.min, IntKind.max, IntKind.signed, IntKind.bits] at h
  omega
theorem wfU64 {n : Int} (h : WfI .u64 n) : 0 ≤ n ∧ n ≤ 18446744073709551615 := by
  unfold WfI at h
  simp [Lit.wf, IntKind.min, IntKind.max, IntKind.signed, IntKind.bits] at h
  omega

/-- What reading a value of type t gives. -/
structure Opens (P : Program) (t : TypeId) {α : Type} (d : Kd α) (wf : α → Prop) : Prop where
  size : P.cellsOf t = d.sz
  opn : ∀ {H : Type} {enc : TypeId × Value → H} {w : World} {base : Nat} {spare : Nat → Bool} {held : Bool} {fuel : Nat} {cs : List Value} {x : DataW H × List MemPlace},
    DataW.trod enc P w base spare held fuel t cs = some x → (∀ n ∈ x.1.weights P t, n ≤ 140737488351232) → ∃ a, d.K w a cs ∧ wf a

theorem Opens.int {P : Program} {t : TypeId} {k : IntKind} (ht : P.underlying t = some (.int k)) (hc : P.cellsOf t = 1) : Opens P t (Kd.int k) (WfI k) :=
  ⟨hc, fun h _ => by
    obtain ⟨n, rfl, _, hw⟩ := DataW.trod_int ht h
    exact ⟨n, rfl, hw⟩⟩
theorem Opens.bool {P : Program} {t : TypeId} (ht : P.underlying t = some .bool) (hc : P.cellsOf t = 1) : Opens P t Kd.bool WfB :=
  ⟨hc, fun h _ => by
    obtain ⟨b, rfl, _⟩ := DataW.trod_bool ht h
    exact ⟨b, rfl, trivial⟩⟩
theorem Opens.string {P : Program} {t : TypeId} (ht : P.underlying t = some .string) (hc : P.cellsOf t = 1) : Opens P t Kd.string WfS :=
  ⟨hc, fun h hz => by
    obtain ⟨s, rfl, rfl, hw⟩ := DataW.trod_string ht h
    refine ⟨s, rfl, ?_⟩
    have := hz s.data.toList.length (by simp [DataW.weights])
    simpa [WfS] using this⟩

theorem weightsAll_mem {H : Type} {P : Program} {e : TypeId} : ∀ {l : List (DataW H)} {d : DataW H}, d ∈ l → ∀ n ∈ d.weights P e, n ∈ DataW.weightsAll P e l
  | d0 :: l, d, hd, n, hn => by
    rw [DataW.weightsAll, List.mem_append]
    rcases List.mem_cons.1 hd with rfl | hd
    · exact .inl hn
    · exact .inr (weightsAll_mem hd n hn)

theorem Opens.slice {P : Program} {t e : TypeId} {b : Nat} {α : Type} {d : Kd α} {wf : α → Prop} (ht : P.underlying t = some (.slice e)) (hc : P.cellsOf t = 1) (hb : P.bytesOf e = b) (ho : Opens P e d wf) :
    Opens P t (Kd.slice e d) (WfL b wf) :=
  ⟨hc, fun {H enc w base spare held fuel cs x} h hz => by
    rcases DataW.trod_slice ht h with ⟨rfl, _⟩ | ⟨a, len, cap, elems, rest, n, _, rfl, rfl, hbb, hl, hm, hlen, hel, _⟩
    · refine ⟨[], ⟨none, 0, rfl, Nat.le_refl _, rfl, by simp, fun h => absurd h (by simp)⟩, by simp, fun x hx => by simp at hx⟩
    · have each : ∀ i, i < len → ∃ y : α, wf y ∧ ∃ c : List Value, c.length = d.sz ∧ d.K w y c ∧ ∀ k u, c[k]? = some u → w.cell? (a.add (i * d.sz + k)) = some u := by
        intro i hi
        have h1 := hel i hi
        have hlt : i < elems.length := by omega
        rw [List.getElem?_eq_getElem hlt, Option.bind_eq_some_iff] at h1
        obtain ⟨c, hcs, htr⟩ := h1
        obtain ⟨y, hK, hwf⟩ := ho.opn htr (fun n hn => hz n (by
          rw [DataW.weights, ht]
          refine List.mem_cons_of_mem _ (List.mem_append_left _ (weightsAll_mem (List.mem_map_of_mem (List.getElem_mem hlt)) n hn))))
        obtain ⟨_, hl2, hcell⟩ := World.cells?_some hcs
        refine ⟨y, hwf, c, by rw [hl2, ho.size], hK, fun k u hu => ?_⟩
        have hk : k < P.cellsOf e := by rw [← hl2]; exact (List.getElem?_eq_some_iff.1 hu).1
        have h2 := hcell k hk
        rw [Addr.add_add, ho.size, hu] at h2
        exact h2
      let f : Fin len → α := fun i => Classical.choose (each i.1 i.2)
      have hf : ∀ i : Fin len, wf (f i) ∧ ∃ c : List Value, c.length = d.sz ∧ d.K w (f i) c ∧ ∀ k u, c[k]? = some u → w.cell? (a.add (i.1 * d.sz + k)) = some u := fun i => Classical.choose_spec (each i.1 i.2)
      have hln : (List.ofFn f).length = len := List.length_ofFn
      refine ⟨List.ofFn f, ⟨some a, cap, by rw [hln], by rw [hln]; exact hl, ?_⟩, ?_, ?_⟩
      · refine ⟨rfl, by rw [hln]; simp only [maxLen] at hm; omega, fun _ => ⟨a, rfl, fun j p hp => ?_⟩⟩
        obtain ⟨hj, rfl⟩ := List.getElem?_eq_some_iff.1 hp
        rw [hln] at hj
        rw [List.getElem_ofFn]
        obtain ⟨_, c, h1, h2, h3⟩ := hf ⟨j, hj⟩
        exact ⟨c, h1, h2, h3⟩
      · rw [hln]
        have h1 := hz ((elems.length + rest.length) * P.bytesOf e) (by
          rw [DataW.weights, ht]
          simp)
        rw [hb, hlen] at h1
        exact Nat.le_trans (Nat.mul_le_mul_right _ (Nat.le_add_right _ _)) h1
      · intro x hx
        obtain ⟨i, rfl⟩ := (List.mem_ofFn).1 hx
        exact (hf i).1⟩

theorem weightsEach_mem {H : Type} {P : Program} : ∀ {ts : List TypeId} {ds : List (DataW H)} {i : Nat} {t : TypeId} {d : DataW H}, ts[i]? = some t → ds[i]? = some d → ∀ n ∈ d.weights P t, n ∈ DataW.weightsEach P ts ds :=
  fun ht hd => DataW.weights_mem_each ht hd

/-- The fields from one on, in line. -/
structure OpensL (P : Program) (fs : List Field) (off : Nat) {α : Type} (d : Kd α) (wf : α → Prop) : Prop where
  opn : ∀ {H : Type} {enc : TypeId × Value → H} {w : World} {base : Nat} {spare : Nat → Bool} {held : Bool} {n : Nat} {cs : List Value}, cs.length = off + d.sz →
    (∀ f ∈ fs, ∃ y, DataW.trod enc P w base spare held n f.type ((cs.drop f.offset).take (P.cellsOf f.type)) = some y ∧ ∀ n ∈ y.1.weights P f.type, n ≤ 140737488351232) → ∃ a, d.K w a (cs.drop off) ∧ wf a
theorem OpensL.one {P : Program} {f : Field} {off : Nat} {α : Type} {d : Kd α} {wf : α → Prop} (hoff : f.offset = off) (h : Opens P f.type d wf) : OpensL P [f] off d wf :=
  ⟨fun hl hf => by
    obtain ⟨y, hy, hz⟩ := hf f (by simp)
    obtain ⟨a, hK, hw⟩ := h.opn hy hz
    rw [hoff, h.size, List.take_of_length_le (by rw [List.length_drop]; omega)] at hK
    exact ⟨a, hK, hw⟩⟩
theorem OpensL.cons {P : Program} {f : Field} {fs : List Field} {off : Nat} {α β : Type} {d : Kd α} {wf : α → Prop} {d' : Kd β} {wf' : β → Prop} (hoff : f.offset = off) (h : Opens P f.type d wf) (hs : OpensL P fs (off + d.sz) d' wf') :
    OpensL P (f :: fs) off (Kd.pair d d') (fun x => wf x.1 ∧ wf' x.2) :=
  ⟨fun {H enc w base spare held n cs} hl hf => by
    obtain ⟨y, hy, hz⟩ := hf f (by simp)
    obtain ⟨a, hK, hw⟩ := h.opn hy hz
    obtain ⟨b, hK', hw'⟩ := hs.opn (cs := cs) (by rw [hl]; show off + (d.sz + d'.sz) = off + d.sz + d'.sz; omega) (fun g hg => hf g (List.mem_cons_of_mem _ hg))
    rw [hoff, h.size] at hK
    refine ⟨(a, b), ⟨_, _, ?_, hK, hK'⟩, hw, hw'⟩
    rw [← List.drop_drop]
    exact (List.take_append_drop _ _).symm⟩
theorem Opens.struct {P : Program} {t : TypeId} {fs : Array Field} {α β : Type} {d : Kd α} {wf : α → Prop} {f : β → α} (ht : P.underlying t = some (.struct fs)) (hc : P.cellsOf t = d.sz) (hL : OpensL P fs.toList 0 d wf) (g : α → β) (hg : ∀ a, f (g a) = a) :
    Opens P t (Kd.iso d f) (fun b => wf (f b)) :=
  ⟨hc, fun {H enc w base spare held fuel cs x} h hz => by
    obtain ⟨xs, n, _, rfl, hl, hlen, hf⟩ := DataW.trod_struct ht h
    obtain ⟨a, hK, hw⟩ := hL.opn (cs := cs) (by rw [hl, hc]; omega) (fun fd hfd => by
      obtain ⟨i, hi⟩ := List.getElem?_of_mem hfd
      have hi' : fs[i]? = some fd := by rw [← hi]; simp
      have hlt : i < xs.length := by rw [hlen]; exact (Array.getElem?_eq_some_iff.1 hi').1
      refine ⟨xs[i], by rw [hf i fd hi', List.getElem?_eq_getElem hlt], fun m hm => hz m ?_⟩
      rw [DataW.weights, ht]
      refine weightsEach_mem (i := i) (t := fd.type) (d := xs[i].1) ?_ ?_ m hm
      · rw [List.getElem?_map, hi]; rfl
      · rw [List.getElem?_map, List.getElem?_eq_getElem hlt]; rfl)
    rw [List.drop_zero] at hK
    exact ⟨g a, by show d.K w (f (g a)) cs; rw [hg]; exact hK, by show wf (f (g a)); rw [hg]; exact hw⟩⟩

section
variable {H : Type} {enc : TypeId × Value → H} {P : Program} {W : World}
/-- A parameter's data weigh no more than the reach. -/
theorem weights_of {ts : List TypeId} {ds : List (DataW H)} (hz : (DataW.weightsEach P ts ds).all (· ≤ reachBytes) = true) {j : Nat} {t : TypeId} {d : DataW H} (ht : ts[j]? = some t) (hd : ds[j]? = some d) : ∀ n ∈ d.weights P t, n ≤ 140737488351232 := by
  intro n hn
  have := List.all_eq_true.1 hz _ (DataW.weights_mem_each ht hd n hn)
  exact of_decide_eq_true this
theorem open_value {base : Nat} {spare : Nat → Bool} {held : Bool} {t : TypeId} {v : Value} {d : DataW H} {ps : List MemPlace} {α : Type} {k : Kd α} {wf : α → Prop} (ho : Opens P t k wf) (h : DataW.Trod enc P W base spare held t v d ps) (hz : ∀ n ∈ d.weights P t, n ≤ 140737488351232) :
    ∃ a, k.K W a v.cells.toList ∧ wf a := by
  obtain ⟨fuel, hf⟩ := h
  exact ho.opn hf hz
theorem cells_agg {cs : Array Value} {l : List Value} (h : (Value.agg cs).cells.toList = l) : cs = l.toArray := by
  subst h
  simp [Value.cells]
end
end Go.Proofs.YthclkdplihchjaaDoor.Args

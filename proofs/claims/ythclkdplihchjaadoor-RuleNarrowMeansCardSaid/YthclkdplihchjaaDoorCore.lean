/-
  Tools for the plain laws: what a printed function comes to 'from some number of rounds on' (Ev), rewritten call by call; bytes and lists. No project text.
-/
import Derived.Test.YthclkdplihchjaaDoorWWords
import Derived.Lib.Bytealg
import Derived.Lib.IndexBytes
import Derived.Lib.SplitLaws
namespace Go.Proofs.YthclkdplihchjaaDoor.P
open Go.RowKit Go.Proofs.YthclkdplihchjaaDoorW.PrintWords
set_option linter.unusedVariables false
set_option linter.unusedSimpArgs false

theorem wrap64_id {x : Int} (h1 : -9223372036854775808 ≤ x) (h2 : x ≤ 9223372036854775807) : wrap64 x = x := by
  unfold wrap64
  omega

theorem Ev.succ {α : Type} {g : Nat → Option α} {r : α} (h : Ev (fun k => g (k + 1)) r) : Ev g r := Ev.step (fun _ => rfl) h
theorem Ev.bind_iff {α β : Type} {g : Nat → Option α} {a : α} (h : Ev g a) {f : Nat → α → Option β} {r : β} : Ev (fun k => (g k).bind (f k)) r ↔ Ev (fun k => f k a) r := by
  refine ⟨fun h2 => ?_, fun h2 => Ev.bind h h2⟩
  obtain ⟨K, h⟩ := h
  obtain ⟨K', h2⟩ := h2
  refine ⟨max K K', fun n hn => ?_⟩
  have h3 := h2 n (by omega)
  simp only [h n (by omega), Option.bind_some] at h3
  exact h3
theorem Ev.some_iff {α : Type} {a r : α} : Ev (fun _ => some a) r ↔ a = r := by
  refine ⟨fun ⟨K, h⟩ => ?_, fun h => h ▸ Ev.now a⟩
  exact Option.some.inj (h K (Nat.le_refl _))
theorem Ev.of_eq {α : Type} {g : Nat → Option α} {a b : α} (h : Ev g a) (e : a = b) : Ev g b := e ▸ h
theorem Ev.unique {α : Type} {g : Nat → Option α} {a b : α} (h : Ev g a) (h2 : Ev g b) : a = b := by
  obtain ⟨K, h⟩ := h
  obtain ⟨K', h2⟩ := h2
  have e1 := h (max K K') (by omega)
  have e2 := h2 (max K K') (by omega)
  exact Option.some.inj (e1.symm.trans e2)
/-- A function that is left by a return behind. -/
theorem Ev.bind_some {α : Type} {g : Nat → Option α} {r : α} : Ev (fun k => (g k).bind fun t => some t) r ↔ Ev g r := by
  have e : (fun k => (g k).bind fun t => some t) = g := by funext k; cases g k <;> rfl
  rw [e]

/-! ### bytes -/
abbrev Bs := List UInt8
/-- The string of a list of bytes. -/
def S (l : Bs) : ByteArray := ⟨l.toArray⟩
/-- The bytes of a string. -/
def L (s : ByteArray) : Bs := s.data.toList
theorem L_S (l : Bs) : L (S l) = l := by simp [L, S]
theorem S_L (s : ByteArray) : S (L s) = s := by
  obtain ⟨⟨l⟩⟩ := s
  rfl
attribute [simp] L_S S_L
theorem L_lit (a : Array UInt8) : L ⟨a⟩ = a.toList := rfl
theorem L_inj {s t : ByteArray} (h : L s = L t) : s = t := by rw [← S_L s, ← S_L t, h]
theorem S_inj {l m : Bs} (h : S l = S m) : l = m := by rw [← L_S l, ← L_S m, h]
theorem size_eq (s : ByteArray) : s.size = (L s).length := by
  obtain ⟨⟨l⟩⟩ := s
  rfl
theorem size_S (l : Bs) : (S l).size = l.length := by rw [size_eq, L_S]
attribute [simp] size_S
theorem toList_eq (s : ByteArray) : s.toList = L s := Lib.toList_data s
theorem data_eq (s : ByteArray) : s.data.toList = L s := rfl
theorem empty_eq : ByteArray.empty = S [] := rfl
theorem nil_eq : (⟨#[]⟩ : ByteArray) = S [] := rfl
theorem bt_eq (s : ByteArray) (i : Nat) (h : i < (L s).length) : bt s (i : Int) = (((L s)[i]'h).toNat : Int) := by
  have h' : (i : Int).toNat < s.size := by rw [size_eq]; simpa using h
  rw [← bt_at s i h']
  rfl
theorem bt_get (s : ByteArray) {i : Int} (h0 : 0 ≤ i) (h : i < (L s).length) : bt s i = (((L s).getD i.toNat 0).toNat : Int) := by
  obtain ⟨n, rfl⟩ := Int.eq_ofNat_of_zero_le h0
  have hn : n < (L s).length := by omega
  rw [bt_eq s n hn]
  simp [List.getD_eq_getElem?_getD, List.getElem?_eq_getElem hn]
theorem extract_eq (s : ByteArray) (a b : Nat) : L (s.extract a b) = ((L s).take b).drop a := by
  have h := Lib.extract_data s a b
  unfold L
  rw [h]
  first
    | rfl
    | (rw [List.drop_take])
    | (rw [← List.drop_take])
theorem extract_from (s : ByteArray) (a : Nat) : s.extract a s.size = S ((L s).drop a) := by
  apply L_inj
  rw [extract_eq, L_S, size_eq, List.take_length]
theorem extract_to (s : ByteArray) (b : Nat) : s.extract 0 b = S ((L s).take b) := by
  apply L_inj
  rw [extract_eq, L_S, List.drop_zero]
theorem extract_S (s : ByteArray) (a b : Nat) : s.extract a b = S (((L s).take b).drop a) := by
  apply L_inj
  rw [extract_eq, L_S]
theorem append_eq (s t : ByteArray) : L (s ++ t) = L s ++ L t := by
  obtain ⟨⟨l⟩⟩ := s
  obtain ⟨⟨m⟩⟩ := t
  simp [L]
theorem append_S (s t : ByteArray) : s ++ t = S (L s ++ L t) := by
  apply L_inj
  rw [append_eq, L_S]
theorem rdOf_eq {α : Type} (d : α) (xs : List α) (n : Nat) : rdOf d xs (n : Int) = xs.getD n d := rfl
theorem rdOf_get {α : Type} (d : α) (xs : List α) {i : Int} (h0 : 0 ≤ i) (h : i < xs.length) : rdOf d xs i = xs[i.toNat]'(by omega) := by
  obtain ⟨n, rfl⟩ := Int.eq_ofNat_of_zero_le h0
  have hn : n < xs.length := by omega
  simp [rdOf, List.getD_eq_getElem?_getD, List.getElem?_eq_getElem hn]
end Go.Proofs.YthclkdplihchjaaDoor.P

-- Written by a program of this session (wip/gen.py) over the kit's print: each Go function as a plain Lean function, and the proof that the Go code comes to it. Nothing here is trusted: Lean checks it.
import Derived.Test.YtcpnmcbgcgkieaaDoorProg
import Derived.Below
import Derived.Deep.Draws
import Derived.Deep.AppendLies
import Derived.Maps.AppendAt
import Derived.OwnWalk
import Derived.Laws.BytesArg
import Derived.Laws.MakeOwn
import Derived.Laws.OwnMore
import Derived.Deep.OwnRows
import Derived.Tactics
import Derived.Lib.ConvBytes
import Derived.Laws.Slices
import Derived.WalkKit
import Derived.KernelRfl
import Derived.RowKit3
import Derived.Deep.LoopGhost
import Derived.Deep.QuietTactic
import Derived.BigQuiet
import Derived.WideLaws
import Derived.Deep.DeepCutAuto
import Derived.Deep.CutBlock
import Derived.Deep.RegionHeld3
import Derived.Laws.Rows
import Derived.Lib.AppendStr
import Derived.ArgAppend
import Derived.Laws.IdiomCopy
import Derived.OrdersHeld
import Derived.Laws.BitsLemmas
import Derived.RowKit
import Derived.Test.YtcpnmcbgcgkieaaDoorShelf
import Derived.Test.YtcpnmcbgcgkieaaDoorStrL
import Derived.Test.YtcpnmcbgcgkieaaDoorMakeC
import Derived.Test.YtcpnmcbgcgkieaaDoorCut
import Derived.Test.YtcpnmcbgcgkieaaDoorWWords
import Derived.Test.YtcpnmcbgcgkieaaDoorWLast
import Derived.Test.YtcpnmcbgcgkieaaDoorWTab
import Derived.Test.YtcpnmcbgcgkieaaDoorWApart
import Derived.Test.YtcpnmcbgcgkieaaDoorWFoot
import Derived.Test.YtcpnmcbgcgkieaaDoorWKept
import Derived.Test.YtcpnmcbgcgkieaaDoorWShare
import Derived.Test.YtcpnmcbgcgkieaaDoorWN
import Derived.Laws.StructEq
import Derived.Test.YtcpnmcbgcgkieaaDoorWRepsOne
import Derived.Test.YtcpnmcbgcgkieaaDoorWGuard
import Derived.Test.YtcpnmcbgcgkieaaDoorWMore
namespace Go.Proofs.YtcpnmcbgcgkieaaDoor.P
open Go.RowKit Go.Proofs.YtcpnmcbgcgkieaaDoorW.PrintWords Go.Proofs.YtcpnmcbgcgkieaaDoorW.PrintLast Go.Proofs.YtcpnmcbgcgkieaaDoorW.PrintMore
attribute [local go_sem] str_gtr str_leq str_geq max2_int min2_int max_two min_two max_three min_three max_four min_four   -- for this text's walks alone
set_option linter.unusedVariables false
set_option linter.unusedSimpArgs false



def errW : Option Int → Value
  | none => .nilIface
  | some c => .iface 0 (.int .i64 c)
theorem errW_none : errW none = .nilIface := rfl
theorem errW_some (c : Int) : errW (some c) = .iface 0 (.int .i64 c) := rfl

theorem info9 : (Tryd.prog.info? 9).map (fun i => (i.zero, i.size, i.bytes)) = some (some (.string ⟨#[]⟩), 1, 16) := by kernel_rfl
theorem info39 : (Tryd.prog.info? 39).map (fun i => (i.zero, i.size, i.bytes)) = some (some (.agg #[(.slice none 0 0), (.bool false)]), 2, 32) := by kernel_rfl
-- the values' own types
def rd_L1 (xs : List (List ByteArray)) (i : Int) : (List ByteArray) := xs.getD i.toNat ([] : List ByteArray)
theorem at_L1 {w : World} {A : Option Addr} {n : Nat} {xs : List (List ByteArray)} (h : Kd.C (Kd.slice 9 Kd.string) w A n xs) (i : Int) (h0 : 0 ≤ i) (h1 : i < n) : ∃ ad A0 c0, A = some ad ∧ w.cell? (ad.add i.toNat) = some (.slice A0 (rd_L1 xs i).length c0) ∧ (rd_L1 xs i).length ≤ c0 ∧ Kd.string.C w A0 (rd_L1 xs i).length (rd_L1 xs i) := by
  obtain ⟨ad, c, e, _, hK, hc0⟩ := Kd.C_get h ([] : List ByteArray) i h0 h1
  have hc : ∀ j u, c[j]? = some u → w.cell? (ad.add (i.toNat * 1 + j)) = some u := hc0
  obtain ⟨A0, c0, rfl, l0, g0⟩ := hK
  exact ⟨ad, A0, c0, e, by have hq := hc 0 _ rfl; rwa [Nat.mul_one, Nat.add_zero] at hq, l0, g0⟩

/-! #### struct type 39 -/
structure S39 where
  f0 : (List ByteArray)
  f1 : Bool
def z39 : S39 := ⟨([] : List ByteArray), false⟩
def k39 : Kd S39 := Kd.iso (Kd.pair (Kd.slice 9 Kd.string) Kd.bool) (fun x : S39 => (x.f0, x.f1))
theorem k39_open {w : World} {x : S39} {cs : List Value} (h : k39.K w x cs) : ∃ A0 c0, cs = [.slice A0 x.f0.length c0, .bool x.f1] ∧ x.f0.length ≤ c0 ∧ Kd.string.C w A0 x.f0.length x.f0 := by
  obtain ⟨_, _, rfl, ⟨A0, c0, rfl, l0, g0⟩, rfl⟩ := h
  exact ⟨A0, c0, rfl, l0, g0⟩
theorem k39_openM {w : World} {base : Nat} {ok : Nat → Prop} {x : S39} {cs : List Value} (h : k39.M w base ok x cs) : ∃ v0, cs = [v0, .bool x.f1] ∧ Kd.string.R 9 w base ok v0 x.f0 := by
  obtain ⟨_, _, rfl, ⟨v0, rfl, g0⟩, rfl⟩ := h
  exact ⟨v0, rfl, g0⟩
theorem k39_mk (w : World) (x : S39) {A0 : Option Addr} {c0 : Nat} (l0 : x.f0.length ≤ c0) (g0 : Kd.string.C w A0 x.f0.length x.f0) : k39.K w x [.slice A0 x.f0.length c0, .bool x.f1] := ⟨[.slice A0 x.f0.length c0], [.bool x.f1], rfl, ⟨A0, c0, rfl, l0, g0⟩, rfl⟩
theorem k39_mkM (w : World) (base : Nat) (ok : Nat → Prop) (x : S39) {v0 : Value} (g0 : Kd.string.R 9 w base ok v0 x.f0) : k39.M w base ok x [v0, .bool x.f1] := ⟨[v0], [.bool x.f1], rfl, ⟨v0, rfl, g0⟩, rfl⟩
theorem k39_openF {W : World} {ok : Nat → Prop} {x : S39} {cs : List Value} (h : Kd.FK k39 W ok x cs) : ∃ A0 c0, cs = [.slice A0 x.f0.length c0, .bool x.f1] ∧ x.f0.length ≤ c0 ∧ Kd.F Kd.string W ok A0 x.f0.length x.f0 := by
  obtain ⟨A0, c0, rfl, l0, _⟩ := k39_open (Kd.FK_now h)
  exact ⟨A0, c0, rfl, l0, (fun W' hW => by obtain ⟨A0_, c0_, he, l0_, g0_⟩ := k39_open (h W' hW); injection (Option.some.inj (show some (Value.slice A0 x.f0.length c0) = some (Value.slice A0_ x.f0.length c0_) from congrArg (fun l => l[0]?) he)) with ha_ _ _; rw [ha_]; exact g0_)⟩
theorem k39_mkF (W : World) (ok : Nat → Prop) (x : S39) {A0 : Option Addr} {c0 : Nat} (l0 : x.f0.length ≤ c0) (g0 : Kd.F Kd.string W ok A0 x.f0.length x.f0) : Kd.FK k39 W ok x [.slice A0 x.f0.length c0, .bool x.f1] := fun W2 hW => k39_mk W2 x l0 (g0 W2 hW)
def rd_T39 (xs : List S39) (i : Int) : S39 := xs.getD i.toNat z39
theorem at_T39 {w : World} {A : Option Addr} {n : Nat} {xs : List S39} (h : Kd.C k39 w A n xs) (i : Int) (h0 : 0 ≤ i) (h1 : i < n) : ∃ ad A0 c0, A = some ad ∧ w.cell? (ad.add (i.toNat * 2)) = some (.slice A0 (rd_T39 xs i).f0.length c0) ∧ w.cell? ⟨(ad.add (i.toNat * 2)).block, (ad.add (i.toNat * 2)).off + 1, none⟩ = some (.bool (rd_T39 xs i).f1) ∧ (rd_T39 xs i).f0.length ≤ c0 ∧ Kd.string.C w A0 (rd_T39 xs i).f0.length (rd_T39 xs i).f0 := by
  obtain ⟨ad, c, e, _, hK, hc0⟩ := Kd.C_get h z39 i h0 h1
  have hc : ∀ j u, c[j]? = some u → w.cell? (ad.add (i.toNat * 2 + j)) = some u := hc0
  obtain ⟨A0, c0, rfl, l0, g0⟩ := k39_open hK
  exact ⟨ad, A0, c0, e, hc 0 _ rfl, by rw [← add_field _ _ 1 (by omega)]; exact hc 1 _ rfl, l0, g0⟩

/-! #### struct type 24 -/
structure S24 where
  f0 : (List ByteArray)
  f1 : Bool
def z24 : S24 := ⟨([] : List ByteArray), false⟩
def k24 : Kd S24 := Kd.iso (Kd.pair (Kd.slice 9 Kd.string) Kd.bool) (fun x : S24 => (x.f0, x.f1))
theorem k24_open {w : World} {x : S24} {cs : List Value} (h : k24.K w x cs) : ∃ A0 c0, cs = [.slice A0 x.f0.length c0, .bool x.f1] ∧ x.f0.length ≤ c0 ∧ Kd.string.C w A0 x.f0.length x.f0 := by
  obtain ⟨_, _, rfl, ⟨A0, c0, rfl, l0, g0⟩, rfl⟩ := h
  exact ⟨A0, c0, rfl, l0, g0⟩
theorem k24_openM {w : World} {base : Nat} {ok : Nat → Prop} {x : S24} {cs : List Value} (h : k24.M w base ok x cs) : ∃ v0, cs = [v0, .bool x.f1] ∧ Kd.string.R 9 w base ok v0 x.f0 := by
  obtain ⟨_, _, rfl, ⟨v0, rfl, g0⟩, rfl⟩ := h
  exact ⟨v0, rfl, g0⟩
theorem k24_mk (w : World) (x : S24) {A0 : Option Addr} {c0 : Nat} (l0 : x.f0.length ≤ c0) (g0 : Kd.string.C w A0 x.f0.length x.f0) : k24.K w x [.slice A0 x.f0.length c0, .bool x.f1] := ⟨[.slice A0 x.f0.length c0], [.bool x.f1], rfl, ⟨A0, c0, rfl, l0, g0⟩, rfl⟩
theorem k24_mkM (w : World) (base : Nat) (ok : Nat → Prop) (x : S24) {v0 : Value} (g0 : Kd.string.R 9 w base ok v0 x.f0) : k24.M w base ok x [v0, .bool x.f1] := ⟨[v0], [.bool x.f1], rfl, ⟨v0, rfl, g0⟩, rfl⟩
theorem k24_openF {W : World} {ok : Nat → Prop} {x : S24} {cs : List Value} (h : Kd.FK k24 W ok x cs) : ∃ A0 c0, cs = [.slice A0 x.f0.length c0, .bool x.f1] ∧ x.f0.length ≤ c0 ∧ Kd.F Kd.string W ok A0 x.f0.length x.f0 := by
  obtain ⟨A0, c0, rfl, l0, _⟩ := k24_open (Kd.FK_now h)
  exact ⟨A0, c0, rfl, l0, (fun W' hW => by obtain ⟨A0_, c0_, he, l0_, g0_⟩ := k24_open (h W' hW); injection (Option.some.inj (show some (Value.slice A0 x.f0.length c0) = some (Value.slice A0_ x.f0.length c0_) from congrArg (fun l => l[0]?) he)) with ha_ _ _; rw [ha_]; exact g0_)⟩
theorem k24_mkF (W : World) (ok : Nat → Prop) (x : S24) {A0 : Option Addr} {c0 : Nat} (l0 : x.f0.length ≤ c0) (g0 : Kd.F Kd.string W ok A0 x.f0.length x.f0) : Kd.FK k24 W ok x [.slice A0 x.f0.length c0, .bool x.f1] := fun W2 hW => k24_mk W2 x l0 (g0 W2 hW)
def rd_T24 (xs : List S24) (i : Int) : S24 := xs.getD i.toNat z24
theorem at_T24 {w : World} {A : Option Addr} {n : Nat} {xs : List S24} (h : Kd.C k24 w A n xs) (i : Int) (h0 : 0 ≤ i) (h1 : i < n) : ∃ ad A0 c0, A = some ad ∧ w.cell? (ad.add (i.toNat * 2)) = some (.slice A0 (rd_T24 xs i).f0.length c0) ∧ w.cell? ⟨(ad.add (i.toNat * 2)).block, (ad.add (i.toNat * 2)).off + 1, none⟩ = some (.bool (rd_T24 xs i).f1) ∧ (rd_T24 xs i).f0.length ≤ c0 ∧ Kd.string.C w A0 (rd_T24 xs i).f0.length (rd_T24 xs i).f0 := by
  obtain ⟨ad, c, e, _, hK, hc0⟩ := Kd.C_get h z24 i h0 h1
  have hc : ∀ j u, c[j]? = some u → w.cell? (ad.add (i.toNat * 2 + j)) = some u := hc0
  obtain ⟨A0, c0, rfl, l0, g0⟩ := k24_open hK
  exact ⟨ad, A0, c0, e, hc 0 _ rfl, by rw [← add_field _ _ 1 (by omega)]; exact hc 1 _ rfl, l0, g0⟩

end Go.Proofs.YtcpnmcbgcgkieaaDoor.P

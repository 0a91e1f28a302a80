/- The law stockyard/stockyardlaw09.FiletypeAll: for every input the call returns true, and each argument reads behind the call as it read before. Conditions: none beyond those of the given row and card. (The row and its card, out of the pure statement that YtolmcdglemkchaaDoorPureFiletypeAll proves and of the printed walk.) -/
-- Written by a program of this session (wip/rows.py).
import Derived.Test.YtolmcdglemkchaaDoorCards
import Derived.Test.YtolmcdglemkchaaDoorTie
import Derived.Test.YtolmcdglemkchaaDoorPx3
import Derived.Test.YtolmcdglemkchaaDoorOpens
import Derived.Test.YtolmcdglemkchaaDoorStFiletypeAll
import Derived.Test.YtolmcdglemkchaaDoorPureFiletypeAll
import Derived.WalkKit
import Derived.ProofKit
import Derived.OpenShut
import Derived.ShutString
import Derived.ChangeOld
import Derived.Below
import Derived.Carry
import Derived.SizedLaws
import Derived.Deep.DeepHandedRow
import Derived.Lib.LaidTab
namespace Go.Proofs.YtolmcdglemkchaaDoor.filetypeAll
open Go.ChangeShapes Go.WideShapes Go.ChangeAt Go.RowKit Go.Proofs.YtolmcdglemkchaaDoorW.PrintWords Go.Proofs.YtolmcdglemkchaaDoor.Args Go.Proofs.YtolmcdglemkchaaDoor.P
set_option linter.unusedVariables false
theorem own : ownKnob Tryd.prog.godebug = none := by kernel_rfl
theorem laidOut : laidOutB Tryd.prog = true := by kernel_rfl
set_option maxRecDepth 100000 in
theorem contract (H : Type) (enc : TypeId × Value → H) (W : World) (base : Nat) (args : Array Value) (ds gs : List (DataW H)) (before : List MemPlace)
    (hval0 : ∀ (j : Nat) t v, Tryd.f5.params[j]? = some t → args[j]? = some v → Value.okWide Tryd.prog W .any base t v)
    (hW : DataW.Whole enc Tryd.prog Tryd.f5.params.toList Rows.filetypeAllSpec.vars false W args.toList ds gs before)
    (hz0 : (DataW.weightsEach Tryd.prog (Tryd.f5.params.toList ++ Rows.filetypeAllSpec.plain.varTypes Tryd.prog) (ds ++ gs)).all (· ≤ reachBytes) = true) :
    Calls Tryd.prog 5 args W fun e W' => ∃ v, e = .returned v ∧ Rows.filetypeAllSpec.post enc Tryd.prog Tryd.f5 false true false false W args v W' := by
  have hval := hval0
  have hz := hz0
  have hW' := hW
  obtain ⟨p, q, hA0, hV, rfl, hfz, hnd⟩ := hW
  have hA : DataW.TrodAll enc Tryd.prog W 0 (fun _ => true) true Tryd.f5.params.toList args.toList ds p := hA0
  rw [Tryd.params5] at hA hval hz
  obtain ⟨rfl, rfl, rfl⟩ := trodAll_none hA
  obtain ⟨rfl, rfl⟩ := trodVars_none hV
  obtain ⟨k, hk⟩ := P.Pure.FiletypeAll  
  refine (stockyardlaw09_FiletypeAll.calls k  true W  hk).mono fun e W' ⟨he, hb⟩ => ?_
  subst he
  have bel : Below W.heap.size W W' := hb
  exact ⟨_, rfl, _, _, _, [], _, [], hW', trodAll_mk1 (shut_bool Tryd.underlying4 _), trodAll_mk0, rfl, bel.frame _, fun h => by cases h⟩
/-- A listed table's cells. -/
def flat1 : DataW Unit → List Value
  | .lit (.int k n) => [.int k n]
  | .lit (.string b) => [.string ⟨b.toArray⟩]
  | .agg l => l.flatMap fun | .lit (.int k n) => [.int k n] | _ => []
  | _ => []
def flat : DataW Unit → List Value
  | .agg l => l.flatMap flat1
  | d => flat1 d
def put (l : List Value) : Obj → Obj
  | .cells _ t fr => .cells l.toArray t fr
  | o => o
noncomputable def laidWorld (os : Os) : World := { World.holding Tryd.prog os ⟨#[], #[], []⟩ with heap := (((World.holding Tryd.prog os ⟨#[], #[], []⟩).heap).modify 2 (put (flat Rows.laid_unicode_utf8_acceptRanges))).modify 1 (put (flat Rows.laid_unicode_utf8_first)) }
theorem laid_met (os : Os) : laidMet Tryd.prog Rows.filetypeAllRow.laid ((laidWorld os).forCall (fun _ _ => 0) ⟨#[], #[], []⟩).memory :=
  laidMet_of_run' 8 (by kernel_rfl) (by kernel_rfl)
theorem reads (os : Os) {H : Type} (enc : TypeId × Value → H) : ∃ places, DataW.whole enc Tryd.prog ((laidWorld os).forCall (fun _ _ => 0) ⟨#[], #[], []⟩).memory Tryd.f5.params.toList Rows.filetypeAllSpec.vars false (#[] : Array Value).toList 8 = some ([], [], places) := ⟨[], by kernel_rfl⟩
set_option maxRecDepth 100000 in
theorem lifted (os : Os) (started : os.Started) (H : Type) (enc : TypeId × Value → H) (F : Stop.Interp) :
    ReturnsInHanded {} Tryd.checked os 5 .any ((OpenSpec.ofChange Rows.filetypeAllSpec).preRow enc Tryd.prog Tryd.f5 Rows.filetypeAllRow.domain false Rows.filetypeAllRow.laid) (((OpenSpec.ofChange Rows.filetypeAllSpec).at F).post enc Tryd.prog Tryd.f5 false true false false) := by
  obtain ⟨places, hx⟩ := reads os enc
  refine returnsInHanded_of_row (C := Tryd.checked) (s := OpenSpec.ofChange Rows.filetypeAllSpec) own started (by kernel_rfl) Tryd.func5
    (witness_row_at (enc := enc) (C := Tryd.checked) false (laidWorld os) #[] rfl (by kernel_rfl) (by kernel_rfl) (by kernel_rfl)
      (OpenSpec.preRow_of_cond 8 hx (by kernel_rfl) (fun k hk => by cases hk) (by kernel_rfl) (laid_met os))) ?_
  intro W base args ds gs before hval hW _ _ hz _ _ _
  exact contract H enc W base args ds gs before hval hW hz
theorem said : Rows.FiletypeAllSaid :=
  OpenClaim.holds_of_cond 5 Tryd.f5 rfl rfl rfl rfl rfl rfl rfl ⟨rfl, rfl, rfl, rfl, rfl⟩ rfl rfl rfl rfl rfl (by kernel_rfl) Tryd.func5 (by kernel_rfl)
    (of_decide_eq_true (by kernel_rfl)) (by unfold Func.isWrapper; first | (rw [if_pos (by decide +kernel)]; kernel_rfl) | (rw [if_neg (by decide +kernel)]; exact ⟨rfl, rfl⟩))
    (fun os started H enc _ F => by rw [OpenClaim.pre_eq_preRow]; exact lifted os started H enc F)
theorem plain (f : FuncId) (fn : Func) (hf : Tryd.pinned.checked.prog.funcNamed "stockyard/stockyardlaw09.FiletypeAll" = some f) (hfn : Tryd.pinned.checked.prog.funcs[f]? = some fn) :
    false = Tryd.pinned.checked.prog.looks [] ∧ ∀ (j : Nat) t, fn.params[j]? = some t → Tryd.pinned.checked.prog.wantsStandIn t = false := by
  obtain rfl : f = 5 := Option.some.inj ((show Tryd.prog.funcNamed "stockyard/stockyardlaw09.FiletypeAll" = some 5 by kernel_rfl).symm.trans hf) |>.symm
  obtain rfl : fn = Tryd.f5 := (Option.some.inj (Tryd.func5.symm.trans hfn)).symm
  refine ⟨by kernel_rfl, fun j t ht => ?_⟩
  rw [Tryd.params5] at ht
  have hm := Array.mem_of_getElem? ht
  simp at hm
theorem card : Rows.FiletypeAllCardSaid :=
  Claim7.holds_tied_plain_at .later [] _ _ _ _ said (fun _ h => by cases h) (by kernel_rfl) (fun _ h => by cases h) filetypeAll_row_tie rfl ⟨rfl, rfl⟩ (by kernel_rfl) rfl plain (by kernel_rfl)
#print axioms card
end Go.Proofs.YtolmcdglemkchaaDoor.filetypeAll
namespace Go.Proofs.YtolmcdglemkchaaDoor
/-- The law holds. -/
theorem filetypeAll_holds : Rows.FiletypeAllCardSaid := filetypeAll.card
end Go.Proofs.YtolmcdglemkchaaDoor

/- The law stockyard/stockyardlaw04.RuleNarrowMeans: for every input the call returns true, and each argument reads behind the call as it read before. Conditions: none beyond those of the given row and card. (The row and its card, out of the pure statement that YthclkdplihchjaaDoorPureRuleNarrowMeans proves and of the printed walk.) -/
-- Written by a program of this session (wip/rows.py).
import Derived.Test.YthclkdplihchjaaDoorCards
import Derived.Test.YthclkdplihchjaaDoorTie
import Derived.Test.YthclkdplihchjaaDoorPx27
import Derived.Test.YthclkdplihchjaaDoorOpens
import Derived.Test.YthclkdplihchjaaDoorStRuleNarrowMeans
import Derived.Test.YthclkdplihchjaaDoorPureRuleNarrowMeans
import Derived.WalkKit
import Derived.ProofKit
import Derived.OpenShut
import Derived.ShutString
import Derived.ChangeOld
import Derived.Below
import Derived.Carry
import Derived.SizedLaws
import Derived.Deep.DeepHandedRow
import Derived.Lib.LaidTab
namespace Go.Proofs.YthclkdplihchjaaDoor.ruleNarrowMeans
open Go.ChangeShapes Go.WideShapes Go.ChangeAt Go.RowKit Go.Proofs.YthclkdplihchjaaDoorW.PrintWords Go.Proofs.YthclkdplihchjaaDoor.Args Go.Proofs.YthclkdplihchjaaDoor.P
set_option linter.unusedVariables false
theorem own : ownKnob Tryd.prog.godebug = none := by kernel_rfl
theorem laidOut : laidOutB Tryd.prog = true := by kernel_rfl
set_option maxRecDepth 100000 in
theorem contract (H : Type) (enc : TypeId × Value → H) (W : World) (base : Nat) (args : Array Value) (ds gs : List (DataW H)) (before : List MemPlace)
    (hval0 : ∀ (j : Nat) t v, Tryd.f9.params[j]? = some t → args[j]? = some v → Value.okWide Tryd.prog W .any base t v)
    (hW : DataW.Whole enc Tryd.prog Tryd.f9.params.toList Rows.ruleNarrowMeansSpec.vars false W args.toList ds gs before)
    (hz0 : (DataW.weightsEach Tryd.prog (Tryd.f9.params.toList ++ Rows.ruleNarrowMeansSpec.plain.varTypes Tryd.prog) (ds ++ gs)).all (· ≤ reachBytes) = true) :
    Calls Tryd.prog 9 args W fun e W' => ∃ v, e = .returned v ∧ Rows.ruleNarrowMeansSpec.post enc Tryd.prog Tryd.f9 false true false false W args v W' := by
  have hval := hval0
  have hz := hz0
  have hW' := hW
  obtain ⟨p, q, hA0, hV, rfl, hfz, hnd⟩ := hW
  have hA : DataW.TrodAll enc Tryd.prog W 0 (fun _ => true) true Tryd.f9.params.toList args.toList ds p := hA0
  rw [Tryd.params9] at hA hval hz
  obtain ⟨v0, vs0, d0, ds0, p0, q0, hargs, rfl, rfl, h0, r0⟩ := trodAll_cons hA
  obtain ⟨v1, vs1, d1, ds1, p1, q1, rfl, rfl, rfl, h1, r1⟩ := trodAll_cons r0
  obtain ⟨v2, vs2, d2, ds2, p2, q2, rfl, rfl, rfl, h2, r2⟩ := trodAll_cons r1
  obtain ⟨rfl, rfl, rfl⟩ := trodAll_nil r2
  obtain rfl : args = #[v0, v1, v2] := by cases args; simp_all
  obtain ⟨rfl, rfl⟩ := trodVars_none hV
  have lt0 : ∀ x ∈ p0, x.block < W.heap.size := by obtain ⟨m, hm⟩ := h0; exact DataW.trod_lt m _ _ _ hm
  obtain ⟨x0, K0, wf0_⟩ := open_value o39 h0 (weights_of hz (j := 0) (t := 39) (d := d0) rfl rfl)
  obtain ⟨cs0, rfl, _⟩ := okWide_struct Tryd.underlying39 (hval 0 39 v0 rfl rfl)
  obtain ⟨A0_1, C0_1, A0_3, C0_3, e0, l0_1, g0_1, l0_3, g0_3⟩ := k39_open K0
  obtain rfl := cells_agg e0
  have lt1 : ∀ x ∈ p1, x.block < W.heap.size := by obtain ⟨m, hm⟩ := h1; exact DataW.trod_lt m _ _ _ hm
  obtain ⟨x1, K1, wf1_⟩ := open_value o24 h1 (weights_of hz (j := 1) (t := 24) (d := d1) rfl rfl)
  obtain ⟨cs1, rfl, _⟩ := okWide_struct Tryd.underlying24 (hval 1 24 v1 rfl rfl)
  obtain ⟨A1_0, C1_0, e1, l1_0, g1_0⟩ := k24_open K1
  obtain rfl := cells_agg e1
  have lt2 : ∀ x ∈ p2, x.block < W.heap.size := by obtain ⟨m, hm⟩ := h2; exact DataW.trod_lt m _ _ _ hm
  obtain ⟨x2, K2, wf2_⟩ := open_value o9 h2 (weights_of hz (j := 2) (t := 9) (d := d2) rfl rfl)
  obtain ⟨n2, rfl⟩ := okWide_string Tryd.underlying9 (hval 2 9 v2 rfl rfl)
  obtain rfl : n2 = x2 := by simpa [Kd.int, Kd.bool, Kd.string, Kd.scalar, Value.cells] using K2
  obtain ⟨k, hk⟩ := P.Pure.RuleNarrowMeans x0 x1 n2 wf0_ wf1_ wf2_
  refine (stockyardlaw04_RuleNarrowMeans.calls k x0.f0 _ _ x0.f1.f0 x0.f1.f1 _ _ x0.f2.f0 x0.f2.f1 _ _ x1.f0 x1.f1 n2 true W g0_1 l0_1 g0_3 l0_3 g1_0 l1_0 hk).mono fun e W' ⟨he, hb⟩ => ?_
  subst he
  have bel : Below W.heap.size W W' := hb
  exact ⟨_, rfl, _, _, _, [], _, [], hW', trodAll_mk1 (shut_bool Tryd.underlying4 _), (trodAll_cons_mk (Below.trod laidOut (by kernel_rfl) (of_decide_eq_true (by kernel_rfl)) h0 bel lt0) (trodAll_cons_mk (Below.trod laidOut (by kernel_rfl) (of_decide_eq_true (by kernel_rfl)) h1 bel lt1) (trodAll_cons_mk (Below.trod laidOut (by kernel_rfl) (of_decide_eq_true (by kernel_rfl)) h2 bel lt2) trodAll_mk0))), rfl, bel.frame _, fun h => by cases h⟩
/-- A listed table's cells. -/
def flat1 : DataW Unit → List Value
  | .lit (.int k n) => [.int k n]
  | .lit (.string b) => [.string ⟨b.toArray⟩]
  | .agg l => l.flatMap fun | .lit (.int k n) => [.int k n] | _ => []
  | _ => []
def flat : DataW Unit → List Value
  | .agg l => l.flatMap flat1
  | d => flat1 d
def put (l : List Value) : Obj → Obj
  | .cells _ t fr => .cells l.toArray t fr
  | o => o
noncomputable def laidWorld (os : Os) : World := { World.holding Tryd.prog os ⟨#[], #[], []⟩ with heap := (((World.holding Tryd.prog os ⟨#[], #[], []⟩).heap).modify 2 (put (flat Rows.laid_unicode_utf8_acceptRanges))).modify 1 (put (flat Rows.laid_unicode_utf8_first)) }
theorem laid_met (os : Os) : laidMet Tryd.prog Rows.ruleNarrowMeansRow.laid ((laidWorld os).forCall (fun _ _ => 0) ⟨#[], #[.agg #[.bool false, .slice none 0 0, .bool false, .slice none 0 0, .bool false], .agg #[.slice none 0 0, .bool false], .string ByteArray.empty], []⟩).memory :=
  laidMet_of_run' 8 (by kernel_rfl) (by kernel_rfl)
theorem reads (os : Os) {H : Type} (enc : TypeId × Value → H) : ∃ places, DataW.whole enc Tryd.prog ((laidWorld os).forCall (fun _ _ => 0) ⟨#[], #[.agg #[.bool false, .slice none 0 0, .bool false, .slice none 0 0, .bool false], .agg #[.slice none 0 0, .bool false], .string ByteArray.empty], []⟩).memory Tryd.f9.params.toList Rows.ruleNarrowMeansSpec.vars false (#[.agg #[.bool false, .slice none 0 0, .bool false, .slice none 0 0, .bool false], .agg #[.slice none 0 0, .bool false], .string ByteArray.empty] : Array Value).toList 8 = some ([.agg [.lit (.bool false), .agg [.nil, .lit (.bool false)], .agg [.nil, .lit (.bool false)]], .agg [.nil, .lit (.bool false)], .lit (.string [])], [], places) := ⟨[], by kernel_rfl⟩
set_option maxRecDepth 100000 in
theorem lifted (os : Os) (started : os.Started) (H : Type) (enc : TypeId × Value → H) (F : Stop.Interp) :
    ReturnsInHanded {} Tryd.checked os 9 .any ((OpenSpec.ofChange Rows.ruleNarrowMeansSpec).preRow enc Tryd.prog Tryd.f9 Rows.ruleNarrowMeansRow.domain false Rows.ruleNarrowMeansRow.laid) (((OpenSpec.ofChange Rows.ruleNarrowMeansSpec).at F).post enc Tryd.prog Tryd.f9 false true false false) := by
  obtain ⟨places, hx⟩ := reads os enc
  refine returnsInHanded_of_row (C := Tryd.checked) (s := OpenSpec.ofChange Rows.ruleNarrowMeansSpec) own started (by kernel_rfl) Tryd.func9
    (witness_row_at (enc := enc) (C := Tryd.checked) false (laidWorld os) #[.agg #[.bool false, .slice none 0 0, .bool false, .slice none 0 0, .bool false], .agg #[.slice none 0 0, .bool false], .string ByteArray.empty] rfl (by kernel_rfl) (by kernel_rfl) (by kernel_rfl)
      (OpenSpec.preRow_of_cond 8 hx (by kernel_rfl) (fun k hk => by cases hk) (by kernel_rfl) (laid_met os))) ?_
  intro W base args ds gs before hval hW _ _ hz _ _ _
  exact contract H enc W base args ds gs before hval hW hz
theorem said : Rows.RuleNarrowMeansSaid :=
  OpenClaim.holds_of_cond 9 Tryd.f9 rfl rfl rfl rfl rfl rfl rfl ⟨rfl, rfl, rfl, rfl, rfl⟩ rfl rfl rfl rfl rfl (by kernel_rfl) Tryd.func9 (by kernel_rfl)
    (of_decide_eq_true (by kernel_rfl)) (by unfold Func.isWrapper; first | (rw [if_pos (by decide +kernel)]; kernel_rfl) | (rw [if_neg (by decide +kernel)]; exact ⟨rfl, rfl⟩))
    (fun os started H enc _ F => by rw [OpenClaim.pre_eq_preRow]; exact lifted os started H enc F)
theorem plain (f : FuncId) (fn : Func) (hf : Tryd.pinned.checked.prog.funcNamed "stockyard/stockyardlaw04.RuleNarrowMeans" = some f) (hfn : Tryd.pinned.checked.prog.funcs[f]? = some fn) :
    false = Tryd.pinned.checked.prog.looks [] ∧ ∀ (j : Nat) t, fn.params[j]? = some t → Tryd.pinned.checked.prog.wantsStandIn t = false := by
  obtain rfl : f = 9 := Option.some.inj ((show Tryd.prog.funcNamed "stockyard/stockyardlaw04.RuleNarrowMeans" = some 9 by kernel_rfl).symm.trans hf) |>.symm
  obtain rfl : fn = Tryd.f9 := (Option.some.inj (Tryd.func9.symm.trans hfn)).symm
  refine ⟨by kernel_rfl, fun j t ht => ?_⟩
  rw [Tryd.params9] at ht
  have hm := Array.mem_of_getElem? ht
  simp only [List.mem_toArray, List.mem_cons, List.not_mem_nil, or_false] at hm
  rcases hm with rfl | rfl | rfl
  · exact (show Tryd.prog.wantsStandIn 39 = false by kernel_rfl)
  · exact (show Tryd.prog.wantsStandIn 24 = false by kernel_rfl)
  · exact (show Tryd.prog.wantsStandIn 9 = false by kernel_rfl)
theorem card : Rows.RuleNarrowMeansCardSaid :=
  Claim7.holds_tied_plain_at .later [] _ _ _ _ said (fun _ h => by cases h) (by kernel_rfl) (fun _ h => by cases h) ruleNarrowMeans_row_tie rfl ⟨rfl, rfl⟩ (by kernel_rfl) rfl plain (by kernel_rfl)
#print axioms card
end Go.Proofs.YthclkdplihchjaaDoor.ruleNarrowMeans
namespace Go.Proofs.YthclkdplihchjaaDoor
/-- The law holds. -/
theorem ruleNarrowMeans_holds : Rows.RuleNarrowMeansCardSaid := ruleNarrowMeans.card
end Go.Proofs.YthclkdplihchjaaDoor

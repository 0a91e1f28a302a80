-- Written by a program of this session (wip/gen.py) over the kit's print: each Go function as a plain Lean function, and the proof that the Go code comes to it. Nothing here is trusted: Lean checks it.
import Derived.Test.YtgbnjkfhkhkkfaaDoorProg
import Derived.Below
import Derived.Deep.Draws
import Derived.Deep.AppendLies
import Derived.Maps.AppendAt
import Derived.OwnWalk
import Derived.Laws.BytesArg
import Derived.Laws.MakeOwn
import Derived.Laws.OwnMore
import Derived.Deep.OwnRows
import Derived.Tactics
import Derived.Lib.ConvBytes
import Derived.Laws.Slices
import Derived.WalkKit
import Derived.KernelRfl
import Derived.RowKit3
import Derived.Deep.LoopGhost
import Derived.Deep.QuietTactic
import Derived.BigQuiet
import Derived.WideLaws
import Derived.Deep.DeepCutAuto
import Derived.Deep.CutBlock
import Derived.Deep.RegionHeld3
import Derived.Laws.Rows
import Derived.Lib.AppendStr
import Derived.ArgAppend
import Derived.Laws.IdiomCopy
import Derived.OrdersHeld
import Derived.Laws.BitsLemmas
import Derived.RowKit
import Derived.Test.YtgbnjkfhkhkkfaaDoorShelf
import Derived.Test.YtgbnjkfhkhkkfaaDoorStrL
import Derived.Test.YtgbnjkfhkhkkfaaDoorWWords
import Derived.Test.YtgbnjkfhkhkkfaaDoorWLast
import Derived.Test.YtgbnjkfhkhkkfaaDoorWTab
import Derived.Test.YtgbnjkfhkhkkfaaDoorWFour
import Derived.Test.YtgbnjkfhkhkkfaaDoorWQPut
import Derived.Test.YtgbnjkfhkhkkfaaDoorWApart
import Derived.Test.YtgbnjkfhkhkkfaaDoorWArr
import Derived.Test.YtgbnjkfhkhkkfaaDoorWZeros
import Derived.Test.YtgbnjkfhkhkkfaaDoorWFoot
import Derived.Test.YtgbnjkfhkhkkfaaDoorWKept
import Derived.Test.YtgbnjkfhkhkkfaaDoorWShare
import Derived.Test.YtgbnjkfhkhkkfaaDoorWN
import Derived.Test.YtgbnjkfhkhkkfaaDoorWFootNe
import Derived.Test.YtgbnjkfhkhkkfaaDoorWAt
import Derived.Test.YtgbnjkfhkhkkfaaDoorWEqStruct
import Derived.Test.YtgbnjkfhkhkkfaaDoorWRepsOne
import Derived.Test.YtgbnjkfhkhkkfaaDoorWInv
import Derived.Test.YtgbnjkfhkhkkfaaDoorWInvWords
import Derived.Test.YtgbnjkfhkhkkfaaDoorWGuard
import Derived.Test.YtgbnjkfhkhkkfaaDoorWNEv
import Derived.Test.YtgbnjkfhkhkkfaaDoorWMore
namespace Go.Proofs.YtgbnjkfhkhkkfaaDoor.P
open Go.RowKit Go.Proofs.YtgbnjkfhkhkkfaaDoorW.PrintWords Go.Proofs.YtgbnjkfhkhkkfaaDoorW.PrintLast Go.Proofs.YtgbnjkfhkhkkfaaDoorW.PrintMore
attribute [local go_sem] str_gtr str_leq str_geq max2_int min2_int max_two min_two max_three min_three max_four min_four   -- for this text's walks alone
set_option linter.unusedVariables false
set_option linter.unusedSimpArgs false



def errW : Option Int → Value
  | none => .nilIface
  | some c => .iface 0 (.int .i64 c)
theorem errW_none : errW none = .nilIface := rfl
theorem errW_some (c : Int) : errW (some c) = .iface 0 (.int .i64 c) := rfl

theorem info9 : (Tryd.prog.info? 9).map (fun i => (i.zero, i.size, i.bytes)) = some (some (.string ⟨#[]⟩), 1, 16) := by kernel_rfl
-- the values' own types

end Go.Proofs.YtgbnjkfhkhkkfaaDoor.P

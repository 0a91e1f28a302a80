/-
  The pure statement of FiletypeAll (closed: the walk has shown it).
-/
import Derived.Test.YtolmcdglemkchaaDoorStFiletypeAll
namespace Go.Proofs.YtolmcdglemkchaaDoor.P
open Go.RowKit Go.Proofs.YtolmcdglemkchaaDoorW.PrintWords Go.Proofs.YtolmcdglemkchaaDoor.Args
theorem Pure.FiletypeAll : St.FiletypeAll := ⟨0, rfl⟩
end Go.Proofs.YtolmcdglemkchaaDoor.P

/-
  DERIVED. GIVEN WITH THE SEED: THE CARDS: each row of YtolmcdglemkchaaDoorRows.lean that lists a variable, with what it lists TIED to the program's text (the seventh form; the later family's looks); each row that meets fmt, with fmt's text TOLD by the authors' own Lean function (tested against real Go, not proved from fmt's source: count such statements apart). THE CARD IS WHAT COUNTS. Prove the row's statement (the work); the ties are given (YtolmcdglemkchaaDoorTie.lean); close each card by the builder's one call (the guide's Derived/Test/ToyasCard.lean, 'card_holds'). Laid BY PROGRAM, IN A SANDBOX (cutbox-door.mjs). By AI agents, Wed Nov 11 2026. No macro, syntax, notation, axiom, sorry.
-/
import Derived.Test.YtolmcdglemkchaaDoorRows
import GoSem.ClaimSeven
namespace Go.Proofs.YtolmcdglemkchaaDoor
namespace Rows

/-- THE TIED CARD OF 'stockyardlaw09.FiletypeFormats'. -/
def filetypeFormatsCard : Claim7 := { stood := { row := filetypeFormatsRow, standIns := [], harness := (true, "98346eee6423ab7b5b9f37ed054ff3cfa6f89bc65c7c9b7b11699a50ab54a1f3"), looks := false }, kinds := [], alts := [], laidByText := true, laidKinds := [.data, .pinned], laidTests := true, laidLooks := .later }
def FiletypeFormatsCardSaid : Prop := Claim7.holds Tryd.pinned (.plain (OpenSpec.ofChange filetypeFormatsSpec)) filetypeFormatsCard

/-- THE TIED CARD OF 'stockyardlaw09.FiletypeParses'. -/
def filetypeParsesCard : Claim7 := { stood := { row := filetypeParsesRow, standIns := [], harness := (true, "98346eee6423ab7b5b9f37ed054ff3cfa6f89bc65c7c9b7b11699a50ab54a1f3"), looks := false }, kinds := [], alts := [], laidByText := true, laidKinds := [.data, .pinned], laidTests := true, laidLooks := .later }
def FiletypeParsesCardSaid : Prop := Claim7.holds Tryd.pinned (.plain (OpenSpec.ofChange filetypeParsesSpec)) filetypeParsesCard

/-- THE TIED CARD OF 'stockyardlaw09.FiletypeAll'. -/
def filetypeAllCard : Claim7 := { stood := { row := filetypeAllRow, standIns := [], harness := (true, "98346eee6423ab7b5b9f37ed054ff3cfa6f89bc65c7c9b7b11699a50ab54a1f3"), looks := false }, kinds := [], alts := [], laidByText := true, laidKinds := [.data, .pinned], laidTests := true, laidLooks := .later }
def FiletypeAllCardSaid : Prop := Claim7.holds Tryd.pinned (.plain (OpenSpec.ofChange filetypeAllSpec)) filetypeAllCard

/-- THE TIED CARD OF 'stockyardlaw09.FiletypeSteps'. -/
def filetypeStepsCard : Claim7 := { stood := { row := filetypeStepsRow, standIns := [], harness := (true, "98346eee6423ab7b5b9f37ed054ff3cfa6f89bc65c7c9b7b11699a50ab54a1f3"), looks := false }, kinds := [], alts := [], laidByText := true, laidKinds := [.data, .pinned], laidTests := true, laidLooks := .later }
def FiletypeStepsCardSaid : Prop := Claim7.holds Tryd.pinned (.plain (OpenSpec.ofChange filetypeStepsSpec)) filetypeStepsCard

/-- THE TIED CARD OF 'stockyardlaw09.FiletypeFollows'. -/
def filetypeFollowsCard : Claim7 := { stood := { row := filetypeFollowsRow, standIns := [], harness := (true, "98346eee6423ab7b5b9f37ed054ff3cfa6f89bc65c7c9b7b11699a50ab54a1f3"), looks := false }, kinds := [], alts := [], laidByText := true, laidKinds := [.data, .pinned], laidTests := true, laidLooks := .later }
def FiletypeFollowsCardSaid : Prop := Claim7.holds Tryd.pinned (.plain (OpenSpec.ofChange filetypeFollowsSpec)) filetypeFollowsCard

/-- THE TIED CARD OF 'stockyardlaw09.FiletypeNeighbour'. -/
def filetypeNeighbourCard : Claim7 := { stood := { row := filetypeNeighbourRow, standIns := [], harness := (true, "98346eee6423ab7b5b9f37ed054ff3cfa6f89bc65c7c9b7b11699a50ab54a1f3"), looks := false }, kinds := [], alts := [], laidByText := true, laidKinds := [.data, .pinned], laidTests := true, laidLooks := .later }
def FiletypeNeighbourCardSaid : Prop := Claim7.holds Tryd.pinned (.plain (OpenSpec.ofChange filetypeNeighbourSpec)) filetypeNeighbourCard

/-- THE TIED CARD OF 'stockyardlaw09.FiletypeStores'. -/
def filetypeStoresCard : Claim7 := { stood := { row := filetypeStoresRow, standIns := [], harness := (true, "98346eee6423ab7b5b9f37ed054ff3cfa6f89bc65c7c9b7b11699a50ab54a1f3"), looks := false }, kinds := [], alts := [], laidByText := true, laidKinds := [.data, .pinned], laidTests := true, laidLooks := .later }
def FiletypeStoresCardSaid : Prop := Claim7.holds Tryd.pinned (.plain (OpenSpec.ofChange filetypeStoresSpec)) filetypeStoresCard

/-- THE TIED CARD OF 'stockyardlaw09.FiletypeLocals'. -/
def filetypeLocalsCard : Claim7 := { stood := { row := filetypeLocalsRow, standIns := [], harness := (true, "98346eee6423ab7b5b9f37ed054ff3cfa6f89bc65c7c9b7b11699a50ab54a1f3"), looks := false }, kinds := [], alts := [], laidByText := true, laidKinds := [.data, .pinned], laidTests := true, laidLooks := .later }
def FiletypeLocalsCardSaid : Prop := Claim7.holds Tryd.pinned (.plain (OpenSpec.ofChange filetypeLocalsSpec)) filetypeLocalsCard

/-- THE TIED CARD OF 'stockyardlaw09.FiletypeBack'. -/
def filetypeBackCard : Claim7 := { stood := { row := filetypeBackRow, standIns := [], harness := (true, "98346eee6423ab7b5b9f37ed054ff3cfa6f89bc65c7c9b7b11699a50ab54a1f3"), looks := false }, kinds := [], alts := [], laidByText := true, laidKinds := [.data, .pinned], laidTests := true, laidLooks := .later }
def FiletypeBackCardSaid : Prop := Claim7.holds Tryd.pinned (.plain (OpenSpec.ofChange filetypeBackSpec)) filetypeBackCard

/-- THE TIED CARD OF 'stockyardlaw09.FiletypeLines'. -/
def filetypeLinesCard : Claim7 := { stood := { row := filetypeLinesRow, standIns := [], harness := (true, "98346eee6423ab7b5b9f37ed054ff3cfa6f89bc65c7c9b7b11699a50ab54a1f3"), looks := false }, kinds := [], alts := [], laidByText := true, laidKinds := [.data, .pinned], laidTests := true, laidLooks := .later }
def FiletypeLinesCardSaid : Prop := Claim7.holds Tryd.pinned (.plain (OpenSpec.ofChange filetypeLinesSpec)) filetypeLinesCard

/-- THE SECOND FORM's CARD OF 'stockyardlaw09.FiletypeFormats'. -/
def filetypeFormatsUptoCard : Claim7 := { stood := { row := filetypeFormatsUptoRow, standIns := [], harness := (true, "98346eee6423ab7b5b9f37ed054ff3cfa6f89bc65c7c9b7b11699a50ab54a1f3"), looks := false }, kinds := [], alts := [], laidByText := true, laidKinds := [.data, .pinned], laidTests := true, laidLooks := .later }
def FiletypeFormatsUptoCardSaid : Prop := Claim7.holds Tryd.pinned (.plain (OpenSpec.upto filetypeFormatsSpec)) filetypeFormatsUptoCard

/-- THE SECOND FORM's CARD OF 'stockyardlaw09.FiletypeParses'. -/
def filetypeParsesUptoCard : Claim7 := { stood := { row := filetypeParsesUptoRow, standIns := [], harness := (true, "98346eee6423ab7b5b9f37ed054ff3cfa6f89bc65c7c9b7b11699a50ab54a1f3"), looks := false }, kinds := [], alts := [], laidByText := true, laidKinds := [.data, .pinned], laidTests := true, laidLooks := .later }
def FiletypeParsesUptoCardSaid : Prop := Claim7.holds Tryd.pinned (.plain (OpenSpec.upto filetypeParsesSpec)) filetypeParsesUptoCard

/-- THE SECOND FORM's CARD OF 'stockyardlaw09.FiletypeAll'. -/
def filetypeAllUptoCard : Claim7 := { stood := { row := filetypeAllUptoRow, standIns := [], harness := (true, "98346eee6423ab7b5b9f37ed054ff3cfa6f89bc65c7c9b7b11699a50ab54a1f3"), looks := false }, kinds := [], alts := [], laidByText := true, laidKinds := [.data, .pinned], laidTests := true, laidLooks := .later }
def FiletypeAllUptoCardSaid : Prop := Claim7.holds Tryd.pinned (.plain (OpenSpec.upto filetypeAllSpec)) filetypeAllUptoCard

/-- THE SECOND FORM's CARD OF 'stockyardlaw09.FiletypeSteps'. -/
def filetypeStepsUptoCard : Claim7 := { stood := { row := filetypeStepsUptoRow, standIns := [], harness := (true, "98346eee6423ab7b5b9f37ed054ff3cfa6f89bc65c7c9b7b11699a50ab54a1f3"), looks := false }, kinds := [], alts := [], laidByText := true, laidKinds := [.data, .pinned], laidTests := true, laidLooks := .later }
def FiletypeStepsUptoCardSaid : Prop := Claim7.holds Tryd.pinned (.plain (OpenSpec.upto filetypeStepsSpec)) filetypeStepsUptoCard

/-- THE SECOND FORM's CARD OF 'stockyardlaw09.FiletypeFollows'. -/
def filetypeFollowsUptoCard : Claim7 := { stood := { row := filetypeFollowsUptoRow, standIns := [], harness := (true, "98346eee6423ab7b5b9f37ed054ff3cfa6f89bc65c7c9b7b11699a50ab54a1f3"), looks := false }, kinds := [], alts := [], laidByText := true, laidKinds := [.data, .pinned], laidTests := true, laidLooks := .later }
def FiletypeFollowsUptoCardSaid : Prop := Claim7.holds Tryd.pinned (.plain (OpenSpec.upto filetypeFollowsSpec)) filetypeFollowsUptoCard

/-- THE SECOND FORM's CARD OF 'stockyardlaw09.FiletypeNeighbour'. -/
def filetypeNeighbourUptoCard : Claim7 := { stood := { row := filetypeNeighbourUptoRow, standIns := [], harness := (true, "98346eee6423ab7b5b9f37ed054ff3cfa6f89bc65c7c9b7b11699a50ab54a1f3"), looks := false }, kinds := [], alts := [], laidByText := true, laidKinds := [.data, .pinned], laidTests := true, laidLooks := .later }
def FiletypeNeighbourUptoCardSaid : Prop := Claim7.holds Tryd.pinned (.plain (OpenSpec.upto filetypeNeighbourSpec)) filetypeNeighbourUptoCard

/-- THE SECOND FORM's CARD OF 'stockyardlaw09.FiletypeStores'. -/
def filetypeStoresUptoCard : Claim7 := { stood := { row := filetypeStoresUptoRow, standIns := [], harness := (true, "98346eee6423ab7b5b9f37ed054ff3cfa6f89bc65c7c9b7b11699a50ab54a1f3"), looks := false }, kinds := [], alts := [], laidByText := true, laidKinds := [.data, .pinned], laidTests := true, laidLooks := .later }
def FiletypeStoresUptoCardSaid : Prop := Claim7.holds Tryd.pinned (.plain (OpenSpec.upto filetypeStoresSpec)) filetypeStoresUptoCard

/-- THE SECOND FORM's CARD OF 'stockyardlaw09.FiletypeLocals'. -/
def filetypeLocalsUptoCard : Claim7 := { stood := { row := filetypeLocalsUptoRow, standIns := [], harness := (true, "98346eee6423ab7b5b9f37ed054ff3cfa6f89bc65c7c9b7b11699a50ab54a1f3"), looks := false }, kinds := [], alts := [], laidByText := true, laidKinds := [.data, .pinned], laidTests := true, laidLooks := .later }
def FiletypeLocalsUptoCardSaid : Prop := Claim7.holds Tryd.pinned (.plain (OpenSpec.upto filetypeLocalsSpec)) filetypeLocalsUptoCard

/-- THE SECOND FORM's CARD OF 'stockyardlaw09.FiletypeBack'. -/
def filetypeBackUptoCard : Claim7 := { stood := { row := filetypeBackUptoRow, standIns := [], harness := (true, "98346eee6423ab7b5b9f37ed054ff3cfa6f89bc65c7c9b7b11699a50ab54a1f3"), looks := false }, kinds := [], alts := [], laidByText := true, laidKinds := [.data, .pinned], laidTests := true, laidLooks := .later }
def FiletypeBackUptoCardSaid : Prop := Claim7.holds Tryd.pinned (.plain (OpenSpec.upto filetypeBackSpec)) filetypeBackUptoCard

/-- THE SECOND FORM's CARD OF 'stockyardlaw09.FiletypeLines'. -/
def filetypeLinesUptoCard : Claim7 := { stood := { row := filetypeLinesUptoRow, standIns := [], harness := (true, "98346eee6423ab7b5b9f37ed054ff3cfa6f89bc65c7c9b7b11699a50ab54a1f3"), looks := false }, kinds := [], alts := [], laidByText := true, laidKinds := [.data, .pinned], laidTests := true, laidLooks := .later }
def FiletypeLinesUptoCardSaid : Prop := Claim7.holds Tryd.pinned (.plain (OpenSpec.upto filetypeLinesSpec)) filetypeLinesUptoCard
end Rows
end Go.Proofs.YtolmcdglemkchaaDoor

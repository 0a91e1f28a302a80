/-
  DERIVED. GIVEN WITH THE SEED: THE CARDS: each row of YtnfpbnnhijiflaaDoorRows.lean that lists a variable, with what it lists TIED to the program's text (the seventh form; the later family's looks); each row that meets fmt, with fmt's text TOLD by the authors' own Lean function (tested against real Go, not proved from fmt's source: count such statements apart). THE CARD IS WHAT COUNTS. Prove the row's statement (the work); the ties are given (YtnfpbnnhijiflaaDoorTie.lean); close each card by the builder's one call (the guide's Derived/Test/ToyasCard.lean, 'card_holds'). Laid BY PROGRAM, IN A SANDBOX (cutbox-door.mjs). By AI agents, Wed Nov 11 2026. No macro, syntax, notation, axiom, sorry.
-/
import Derived.Test.YtnfpbnnhijiflaaDoorRows
import GoSem.ClaimSeven
namespace Go.Proofs.YtnfpbnnhijiflaaDoor
namespace Rows

/-- THE TIED CARD OF 'stockyardlaw04.RuleChecks'. -/
def ruleChecksCard : Claim7 := { stood := { row := ruleChecksRow, standIns := [], harness := (true, "a66a476cc27ff364ba4649c1537927089ed57040f6875f2d039c190eedd265fb"), looks := false }, kinds := [], alts := [], laidByText := true, laidKinds := [.data, .pinned], laidTests := true, laidLooks := .later }
def RuleChecksCardSaid : Prop := Claim7.holds Tryd.pinned (.plain (OpenSpec.ofChange ruleChecksSpec)) ruleChecksCard

/-- THE TIED CARD OF 'stockyardlaw04.RuleBack'. -/
def ruleBackCard : Claim7 := { stood := { row := ruleBackRow, standIns := [], harness := (true, "a66a476cc27ff364ba4649c1537927089ed57040f6875f2d039c190eedd265fb"), looks := false }, kinds := [], alts := [], laidByText := true, laidKinds := [.data, .pinned], laidTests := true, laidLooks := .later }
def RuleBackCardSaid : Prop := Claim7.holds Tryd.pinned (.plain (OpenSpec.ofChange ruleBackSpec)) ruleBackCard

/-- THE TIED CARD OF 'stockyardlaw04.RuleMaps'. -/
def ruleMapsCard : Claim7 := { stood := { row := ruleMapsRow, standIns := [], harness := (true, "a66a476cc27ff364ba4649c1537927089ed57040f6875f2d039c190eedd265fb"), looks := false }, kinds := [], alts := [], laidByText := true, laidKinds := [.data, .pinned], laidTests := true, laidLooks := .later }
def RuleMapsCardSaid : Prop := Claim7.holds Tryd.pinned (.plain (OpenSpec.ofChange ruleMapsSpec)) ruleMapsCard

/-- THE SECOND FORM's CARD OF 'stockyardlaw04.RuleChecks'. -/
def ruleChecksUptoCard : Claim7 := { stood := { row := ruleChecksUptoRow, standIns := [], harness := (true, "a66a476cc27ff364ba4649c1537927089ed57040f6875f2d039c190eedd265fb"), looks := false }, kinds := [], alts := [], laidByText := true, laidKinds := [.data, .pinned], laidTests := true, laidLooks := .later }
def RuleChecksUptoCardSaid : Prop := Claim7.holds Tryd.pinned (.plain (OpenSpec.upto ruleChecksSpec)) ruleChecksUptoCard

/-- THE SECOND FORM's CARD OF 'stockyardlaw04.RuleBack'. -/
def ruleBackUptoCard : Claim7 := { stood := { row := ruleBackUptoRow, standIns := [], harness := (true, "a66a476cc27ff364ba4649c1537927089ed57040f6875f2d039c190eedd265fb"), looks := false }, kinds := [], alts := [], laidByText := true, laidKinds := [.data, .pinned], laidTests := true, laidLooks := .later }
def RuleBackUptoCardSaid : Prop := Claim7.holds Tryd.pinned (.plain (OpenSpec.upto ruleBackSpec)) ruleBackUptoCard

/-- THE SECOND FORM's CARD OF 'stockyardlaw04.RuleMaps'. -/
def ruleMapsUptoCard : Claim7 := { stood := { row := ruleMapsUptoRow, standIns := [], harness := (true, "a66a476cc27ff364ba4649c1537927089ed57040f6875f2d039c190eedd265fb"), looks := false }, kinds := [], alts := [], laidByText := true, laidKinds := [.data, .pinned], laidTests := true, laidLooks := .later }
def RuleMapsUptoCardSaid : Prop := Claim7.holds Tryd.pinned (.plain (OpenSpec.upto ruleMapsSpec)) ruleMapsUptoCard
end Rows
end Go.Proofs.YtnfpbnnhijiflaaDoor

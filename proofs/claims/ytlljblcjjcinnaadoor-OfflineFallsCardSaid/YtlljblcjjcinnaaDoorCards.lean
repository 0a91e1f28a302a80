/-
  DERIVED. GIVEN WITH THE SEED: THE CARDS: each row of YtlljblcjjcinnaaDoorRows.lean that lists a variable, with what it lists TIED to the program's text (the seventh form; the later family's looks); each row that meets fmt, with fmt's text TOLD by the authors' own Lean function (tested against real Go, not proved from fmt's source: count such statements apart). THE CARD IS WHAT COUNTS. Prove the row's statement (the work); the ties are given (YtlljblcjjcinnaaDoorTie.lean); close each card by the builder's one call (the guide's Derived/Test/ToyasCard.lean, 'card_holds'). Laid BY PROGRAM, IN A SANDBOX (cutbox-door.mjs). By AI agents, Wed Nov 11 2026. No macro, syntax, notation, axiom, sorry.
-/
import Derived.Test.YtlljblcjjcinnaaDoorRows
import GoSem.ClaimSeven
namespace Go.Proofs.YtlljblcjjcinnaaDoor
namespace Rows

/-- THE TIED CARD OF 'stockyardlaw20.OfflineFalls'. -/
def offlineFallsCard : Claim7 := { stood := { row := offlineFallsRow, standIns := [], harness := (true, "f7b1848fc6ffba9f1d1e4725d00d36ac38c091ba607ee464b439ae589f80e104"), looks := false }, kinds := [], alts := [], laidByText := true, laidKinds := [.data, .pinned], laidTests := true, laidLooks := .later }
def OfflineFallsCardSaid : Prop := Claim7.holds Tryd.pinned (.plain (OpenSpec.ofChange offlineFallsSpec)) offlineFallsCard

/-- THE TIED CARD OF 'stockyardlaw20.OfflineBegins'. -/
def offlineBeginsCard : Claim7 := { stood := { row := offlineBeginsRow, standIns := [], harness := (true, "f7b1848fc6ffba9f1d1e4725d00d36ac38c091ba607ee464b439ae589f80e104"), looks := false }, kinds := [], alts := [], laidByText := true, laidKinds := [.data, .pinned], laidTests := true, laidLooks := .later }
def OfflineBeginsCardSaid : Prop := Claim7.holds Tryd.pinned (.plain (OpenSpec.ofChange offlineBeginsSpec)) offlineBeginsCard

/-- THE TIED CARD OF 'stockyardlaw20.OfflineRenewed'. -/
def offlineRenewedCard : Claim7 := { stood := { row := offlineRenewedRow, standIns := [], harness := (true, "f7b1848fc6ffba9f1d1e4725d00d36ac38c091ba607ee464b439ae589f80e104"), looks := false }, kinds := [], alts := [], laidByText := true, laidKinds := [.data, .pinned], laidTests := true, laidLooks := .later }
def OfflineRenewedCardSaid : Prop := Claim7.holds Tryd.pinned (.plain (OpenSpec.ofChange offlineRenewedSpec)) offlineRenewedCard

/-- THE TIED CARD OF 'stockyardlaw20.OfflineRenews'. -/
def offlineRenewsCard : Claim7 := { stood := { row := offlineRenewsRow, standIns := [], harness := (true, "f7b1848fc6ffba9f1d1e4725d00d36ac38c091ba607ee464b439ae589f80e104"), looks := false }, kinds := [], alts := [], laidByText := true, laidKinds := [.data, .pinned], laidTests := true, laidLooks := .later }
def OfflineRenewsCardSaid : Prop := Claim7.holds Tryd.pinned (.plain (OpenSpec.ofChange offlineRenewsSpec)) offlineRenewsCard

/-- THE TIED CARD OF 'stockyardlaw20.OfflineTrue'. -/
def offlineTrueCard : Claim7 := { stood := { row := offlineTrueRow, standIns := [], harness := (true, "f7b1848fc6ffba9f1d1e4725d00d36ac38c091ba607ee464b439ae589f80e104"), looks := false }, kinds := [], alts := [], laidByText := true, laidKinds := [.data, .pinned], laidTests := true, laidLooks := .later }
def OfflineTrueCardSaid : Prop := Claim7.holds Tryd.pinned (.plain (OpenSpec.ofChange offlineTrueSpec)) offlineTrueCard

/-- THE TIED CARD OF 'stockyardlaw20.OfflineTight'. -/
def offlineTightCard : Claim7 := { stood := { row := offlineTightRow, standIns := [], harness := (true, "f7b1848fc6ffba9f1d1e4725d00d36ac38c091ba607ee464b439ae589f80e104"), looks := false }, kinds := [], alts := [], laidByText := true, laidKinds := [.data, .pinned], laidTests := true, laidLooks := .later }
def OfflineTightCardSaid : Prop := Claim7.holds Tryd.pinned (.plain (OpenSpec.ofChange offlineTightSpec)) offlineTightCard

/-- THE TIED CARD OF 'stockyardlaw20.OfflineRenewedTrue'. -/
def offlineRenewedTrueCard : Claim7 := { stood := { row := offlineRenewedTrueRow, standIns := [], harness := (true, "f7b1848fc6ffba9f1d1e4725d00d36ac38c091ba607ee464b439ae589f80e104"), looks := false }, kinds := [], alts := [], laidByText := true, laidKinds := [.data, .pinned], laidTests := true, laidLooks := .later }
def OfflineRenewedTrueCardSaid : Prop := Claim7.holds Tryd.pinned (.plain (OpenSpec.ofChange offlineRenewedTrueSpec)) offlineRenewedTrueCard

/-- THE TIED CARD OF 'stockyardlaw20.OfflineReturns'. -/
def offlineReturnsCard : Claim7 := { stood := { row := offlineReturnsRow, standIns := [], harness := (true, "f7b1848fc6ffba9f1d1e4725d00d36ac38c091ba607ee464b439ae589f80e104"), looks := false }, kinds := [], alts := [], laidByText := true, laidKinds := [.data, .pinned], laidTests := true, laidLooks := .later }
def OfflineReturnsCardSaid : Prop := Claim7.holds Tryd.pinned (.plain (OpenSpec.ofChange offlineReturnsSpec)) offlineReturnsCard

/-- THE TIED CARD OF 'stockyardlaw20.OfflineHeld'. -/
def offlineHeldCard : Claim7 := { stood := { row := offlineHeldRow, standIns := [], harness := (true, "f7b1848fc6ffba9f1d1e4725d00d36ac38c091ba607ee464b439ae589f80e104"), looks := false }, kinds := [], alts := [], laidByText := true, laidKinds := [.data, .pinned], laidTests := true, laidLooks := .later }
def OfflineHeldCardSaid : Prop := Claim7.holds Tryd.pinned (.plain (OpenSpec.ofChange offlineHeldSpec)) offlineHeldCard

/-- THE SECOND FORM's CARD OF 'stockyardlaw20.OfflineFalls'. -/
def offlineFallsUptoCard : Claim7 := { stood := { row := offlineFallsUptoRow, standIns := [], harness := (true, "f7b1848fc6ffba9f1d1e4725d00d36ac38c091ba607ee464b439ae589f80e104"), looks := false }, kinds := [], alts := [], laidByText := true, laidKinds := [.data, .pinned], laidTests := true, laidLooks := .later }
def OfflineFallsUptoCardSaid : Prop := Claim7.holds Tryd.pinned (.plain (OpenSpec.upto offlineFallsSpec)) offlineFallsUptoCard

/-- THE SECOND FORM's CARD OF 'stockyardlaw20.OfflineBegins'. -/
def offlineBeginsUptoCard : Claim7 := { stood := { row := offlineBeginsUptoRow, standIns := [], harness := (true, "f7b1848fc6ffba9f1d1e4725d00d36ac38c091ba607ee464b439ae589f80e104"), looks := false }, kinds := [], alts := [], laidByText := true, laidKinds := [.data, .pinned], laidTests := true, laidLooks := .later }
def OfflineBeginsUptoCardSaid : Prop := Claim7.holds Tryd.pinned (.plain (OpenSpec.upto offlineBeginsSpec)) offlineBeginsUptoCard

/-- THE SECOND FORM's CARD OF 'stockyardlaw20.OfflineRenewed'. -/
def offlineRenewedUptoCard : Claim7 := { stood := { row := offlineRenewedUptoRow, standIns := [], harness := (true, "f7b1848fc6ffba9f1d1e4725d00d36ac38c091ba607ee464b439ae589f80e104"), looks := false }, kinds := [], alts := [], laidByText := true, laidKinds := [.data, .pinned], laidTests := true, laidLooks := .later }
def OfflineRenewedUptoCardSaid : Prop := Claim7.holds Tryd.pinned (.plain (OpenSpec.upto offlineRenewedSpec)) offlineRenewedUptoCard

/-- THE SECOND FORM's CARD OF 'stockyardlaw20.OfflineRenews'. -/
def offlineRenewsUptoCard : Claim7 := { stood := { row := offlineRenewsUptoRow, standIns := [], harness := (true, "f7b1848fc6ffba9f1d1e4725d00d36ac38c091ba607ee464b439ae589f80e104"), looks := false }, kinds := [], alts := [], laidByText := true, laidKinds := [.data, .pinned], laidTests := true, laidLooks := .later }
def OfflineRenewsUptoCardSaid : Prop := Claim7.holds Tryd.pinned (.plain (OpenSpec.upto offlineRenewsSpec)) offlineRenewsUptoCard

/-- THE SECOND FORM's CARD OF 'stockyardlaw20.OfflineTrue'. -/
def offlineTrueUptoCard : Claim7 := { stood := { row := offlineTrueUptoRow, standIns := [], harness := (true, "f7b1848fc6ffba9f1d1e4725d00d36ac38c091ba607ee464b439ae589f80e104"), looks := false }, kinds := [], alts := [], laidByText := true, laidKinds := [.data, .pinned], laidTests := true, laidLooks := .later }
def OfflineTrueUptoCardSaid : Prop := Claim7.holds Tryd.pinned (.plain (OpenSpec.upto offlineTrueSpec)) offlineTrueUptoCard

/-- THE SECOND FORM's CARD OF 'stockyardlaw20.OfflineTight'. -/
def offlineTightUptoCard : Claim7 := { stood := { row := offlineTightUptoRow, standIns := [], harness := (true, "f7b1848fc6ffba9f1d1e4725d00d36ac38c091ba607ee464b439ae589f80e104"), looks := false }, kinds := [], alts := [], laidByText := true, laidKinds := [.data, .pinned], laidTests := true, laidLooks := .later }
def OfflineTightUptoCardSaid : Prop := Claim7.holds Tryd.pinned (.plain (OpenSpec.upto offlineTightSpec)) offlineTightUptoCard

/-- THE SECOND FORM's CARD OF 'stockyardlaw20.OfflineRenewedTrue'. -/
def offlineRenewedTrueUptoCard : Claim7 := { stood := { row := offlineRenewedTrueUptoRow, standIns := [], harness := (true, "f7b1848fc6ffba9f1d1e4725d00d36ac38c091ba607ee464b439ae589f80e104"), looks := false }, kinds := [], alts := [], laidByText := true, laidKinds := [.data, .pinned], laidTests := true, laidLooks := .later }
def OfflineRenewedTrueUptoCardSaid : Prop := Claim7.holds Tryd.pinned (.plain (OpenSpec.upto offlineRenewedTrueSpec)) offlineRenewedTrueUptoCard

/-- THE SECOND FORM's CARD OF 'stockyardlaw20.OfflineReturns'. -/
def offlineReturnsUptoCard : Claim7 := { stood := { row := offlineReturnsUptoRow, standIns := [], harness := (true, "f7b1848fc6ffba9f1d1e4725d00d36ac38c091ba607ee464b439ae589f80e104"), looks := false }, kinds := [], alts := [], laidByText := true, laidKinds := [.data, .pinned], laidTests := true, laidLooks := .later }
def OfflineReturnsUptoCardSaid : Prop := Claim7.holds Tryd.pinned (.plain (OpenSpec.upto offlineReturnsSpec)) offlineReturnsUptoCard

/-- THE SECOND FORM's CARD OF 'stockyardlaw20.OfflineHeld'. -/
def offlineHeldUptoCard : Claim7 := { stood := { row := offlineHeldUptoRow, standIns := [], harness := (true, "f7b1848fc6ffba9f1d1e4725d00d36ac38c091ba607ee464b439ae589f80e104"), looks := false }, kinds := [], alts := [], laidByText := true, laidKinds := [.data, .pinned], laidTests := true, laidLooks := .later }
def OfflineHeldUptoCardSaid : Prop := Claim7.holds Tryd.pinned (.plain (OpenSpec.upto offlineHeldSpec)) offlineHeldUptoCard
end Rows
end Go.Proofs.YtlljblcjjcinnaaDoor

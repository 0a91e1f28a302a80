/-
  NARROWER THAN 'FOR EVERY INPUT', by the rows' own cells (each row's printed sentence says how): OfflineFalls: laid · OfflineBegins: laid · OfflineRenewed: laid · OfflineRenews: laid · OfflineTrue: laid · OfflineTight: laid · OfflineRenewedTrue: laid · OfflineReturns: laid · OfflineHeld: laid.
  DERIVED. THE GIVEN ROWS OF THIS SEAT. 9 by the template 'for every input the law returns true; each argument reads behind the call as it read before'; 0 by the template 'total and deterministic' (their statements: YtlljblcjjcinnaaDoorTotals.lean).
  GIVEN WITH THE SEED: the statements are not yours to turn. If you find one false, say at which input.
  Laid BY PROGRAM, IN A SANDBOX (cutbox-rows.mjs): the forced cells as the released guide's own fill.sh prints them over the translation f570fb8c531dc998… (all of the seat's roots in one cut). By AI agents, Wed Nov 11 2026. No macro, syntax, notation, axiom, sorry.
-/
import Derived.Test.YtlljblcjjcinnaaDoorChecked
import GoSem.PinnedTables
import GoSem.Claim
import GoSem.ClaimJoined
import GoSem.ClaimMapViews
import Derived.JoinedTies
import Derived.KernelRfl
namespace Go.Proofs.YtlljblcjjcinnaaDoor
/- THE CELL 'sum', in the pinned program and in every row, IS THE sha256 OF THE DUMP (.gsa) THAT YtlljblcjjcinnaaDoorProg.lean LOADS. Nothing in Lean hashes anything: it is a label: what it is worth is what the hold of that sum in a sandbox is worth. -/
noncomputable def Tryd.pinned : Pinned := { name := "ytlljblcjjcinnaadoor", sum := "f570fb8c531dc99820f5481f0f558b960955bd17d7c02eb27c7974f3efbcd192", checked := Tryd.checked }
namespace Rows
def none {H : Type} : Left H := { results := [], args := [] }

/- WHAT THE LISTED PACKAGE-LEVEL VARIABLES READ AS WHEN THE CALL BEGINS. Each datum BY PROGRAM (the guide's laid-datum.mjs) off the statement by which the dump's own 'gosem.cut.vars' lays the variable. In a bare row this is a premise. The card (YtlljblcjjcinnaaDoorCards.lean) ties it to the program's text. -/
def laid_unicode_utf8_acceptRanges {H : Type} : DataW H := .agg [.agg [.lit (.int .u8 128), .lit (.int .u8 191)], .agg [.lit (.int .u8 160), .lit (.int .u8 191)], .agg [.lit (.int .u8 128), .lit (.int .u8 159)], .agg [.lit (.int .u8 144), .lit (.int .u8 191)], .agg [.lit (.int .u8 128), .lit (.int .u8 143)], .agg [.lit (.int .u8 0), .lit (.int .u8 0)], .agg [.lit (.int .u8 0), .lit (.int .u8 0)], .agg [.lit (.int .u8 0), .lit (.int .u8 0)], .agg [.lit (.int .u8 0), .lit (.int .u8 0)], .agg [.lit (.int .u8 0), .lit (.int .u8 0)], .agg [.lit (.int .u8 0), .lit (.int .u8 0)], .agg [.lit (.int .u8 0), .lit (.int .u8 0)], .agg [.lit (.int .u8 0), .lit (.int .u8 0)], .agg [.lit (.int .u8 0), .lit (.int .u8 0)], .agg [.lit (.int .u8 0), .lit (.int .u8 0)], .agg [.lit (.int .u8 0), .lit (.int .u8 0)]]
/-- One of Go's own tables, pinned by name: the form's constant. -/
def laid_unicode_utf8_first : DataW Unit := Go.Pinned.utf8First

/-- 'stockyardlaw20.OfflineFalls': WHATEVER THE INPUT: true; the input reads as it did. -/
def offlineFallsSpec : ChangeSpec := { name := "offlineFalls", fn := fun _ => fun
  | [d1, d2, d3] => { results := [.lit (.bool true)], args := [d1, d2, d3] }
  | _ => none }
def offlineFallsRow : OpenClaim := { program := "ytlljblcjjcinnaadoor", sum := "f570fb8c531dc99820f5481f0f558b960955bd17d7c02eb27c7974f3efbcd192", func := "stockyard/stockyardlaw20.OfflineFalls", spec := "offlineFalls", inPlace := ["internal/bytealg.CountString", "internal/bytealg.IndexByteString", "internal/bytealg.IndexString"], unfollowed := true, recurses := true, named := ["unicode/utf8.first", "unicode/utf8.acceptRanges", "internal/bytealg.MaxLen"], apart := false, laid := [("unicode/utf8.acceptRanges", laid_unicode_utf8_acceptRanges), ("unicode/utf8.first", laid_unicode_utf8_first)] }
def OfflineFallsSaid : Prop := offlineFallsRow.holds Tryd.pinned (OpenSpec.ofChange offlineFallsSpec)

/-- ITS FALSE NEIGHBOUR: 'it returns false'. Refute it at one input. -/
def offlineFallsWrong : ChangeSpec := { name := "offlineFalls", fn := fun _ => fun
  | [d1, d2, d3] => { results := [.lit (.bool false)], args := [d1, d2, d3] }
  | _ => none }
def OfflineFallsWrongFalsely : Prop := offlineFallsRow.holds Tryd.pinned (OpenSpec.ofChange offlineFallsWrong)

/-- 'stockyardlaw20.OfflineBegins': WHATEVER THE INPUT: true; the input reads as it did. -/
def offlineBeginsSpec : ChangeSpec := { name := "offlineBegins", fn := fun _ => fun
  | [d1, d2] => { results := [.lit (.bool true)], args := [d1, d2] }
  | _ => none }
def offlineBeginsRow : OpenClaim := { program := "ytlljblcjjcinnaadoor", sum := "f570fb8c531dc99820f5481f0f558b960955bd17d7c02eb27c7974f3efbcd192", func := "stockyard/stockyardlaw20.OfflineBegins", spec := "offlineBegins", inPlace := ["internal/bytealg.CountString", "internal/bytealg.IndexByteString", "internal/bytealg.IndexString"], unfollowed := true, recurses := true, named := ["unicode/utf8.first", "unicode/utf8.acceptRanges", "internal/bytealg.MaxLen"], apart := false, laid := [("unicode/utf8.acceptRanges", laid_unicode_utf8_acceptRanges), ("unicode/utf8.first", laid_unicode_utf8_first)] }
def OfflineBeginsSaid : Prop := offlineBeginsRow.holds Tryd.pinned (OpenSpec.ofChange offlineBeginsSpec)

/-- ITS FALSE NEIGHBOUR: 'it returns false'. Refute it at one input. -/
def offlineBeginsWrong : ChangeSpec := { name := "offlineBegins", fn := fun _ => fun
  | [d1, d2] => { results := [.lit (.bool false)], args := [d1, d2] }
  | _ => none }
def OfflineBeginsWrongFalsely : Prop := offlineBeginsRow.holds Tryd.pinned (OpenSpec.ofChange offlineBeginsWrong)

/-- 'stockyardlaw20.OfflineRenewed': WHATEVER THE INPUT: true; the input reads as it did. -/
def offlineRenewedSpec : ChangeSpec := { name := "offlineRenewed", fn := fun _ => fun
  | [d1, d2, d3, d4] => { results := [.lit (.bool true)], args := [d1, d2, d3, d4] }
  | _ => none }
def offlineRenewedRow : OpenClaim := { program := "ytlljblcjjcinnaadoor", sum := "f570fb8c531dc99820f5481f0f558b960955bd17d7c02eb27c7974f3efbcd192", func := "stockyard/stockyardlaw20.OfflineRenewed", spec := "offlineRenewed", inPlace := ["internal/bytealg.CountString", "internal/bytealg.IndexByteString", "internal/bytealg.IndexString"], unfollowed := true, recurses := true, named := ["unicode/utf8.first", "unicode/utf8.acceptRanges", "internal/bytealg.MaxLen"], apart := false, laid := [("unicode/utf8.acceptRanges", laid_unicode_utf8_acceptRanges), ("unicode/utf8.first", laid_unicode_utf8_first)] }
def OfflineRenewedSaid : Prop := offlineRenewedRow.holds Tryd.pinned (OpenSpec.ofChange offlineRenewedSpec)

/-- ITS FALSE NEIGHBOUR: 'it returns false'. Refute it at one input. -/
def offlineRenewedWrong : ChangeSpec := { name := "offlineRenewed", fn := fun _ => fun
  | [d1, d2, d3, d4] => { results := [.lit (.bool false)], args := [d1, d2, d3, d4] }
  | _ => none }
def OfflineRenewedWrongFalsely : Prop := offlineRenewedRow.holds Tryd.pinned (OpenSpec.ofChange offlineRenewedWrong)

/-- 'stockyardlaw20.OfflineRenews': WHATEVER THE INPUT: true; the input reads as it did. -/
def offlineRenewsSpec : ChangeSpec := { name := "offlineRenews", fn := fun _ => fun
  | [d1, d2, d3] => { results := [.lit (.bool true)], args := [d1, d2, d3] }
  | _ => none }
def offlineRenewsRow : OpenClaim := { program := "ytlljblcjjcinnaadoor", sum := "f570fb8c531dc99820f5481f0f558b960955bd17d7c02eb27c7974f3efbcd192", func := "stockyard/stockyardlaw20.OfflineRenews", spec := "offlineRenews", inPlace := ["internal/bytealg.CountString", "internal/bytealg.IndexByteString", "internal/bytealg.IndexString"], unfollowed := true, recurses := true, named := ["unicode/utf8.first", "unicode/utf8.acceptRanges", "internal/bytealg.MaxLen"], apart := false, laid := [("unicode/utf8.acceptRanges", laid_unicode_utf8_acceptRanges), ("unicode/utf8.first", laid_unicode_utf8_first)] }
def OfflineRenewsSaid : Prop := offlineRenewsRow.holds Tryd.pinned (OpenSpec.ofChange offlineRenewsSpec)

/-- ITS FALSE NEIGHBOUR: 'it returns false'. Refute it at one input. -/
def offlineRenewsWrong : ChangeSpec := { name := "offlineRenews", fn := fun _ => fun
  | [d1, d2, d3] => { results := [.lit (.bool false)], args := [d1, d2, d3] }
  | _ => none }
def OfflineRenewsWrongFalsely : Prop := offlineRenewsRow.holds Tryd.pinned (OpenSpec.ofChange offlineRenewsWrong)

/-- 'stockyardlaw20.OfflineTrue': WHATEVER THE INPUT: true; the input reads as it did. -/
def offlineTrueSpec : ChangeSpec := { name := "offlineTrue", fn := fun _ => fun
  | [d1, d2, d3, d4, d5, d6, d7] => { results := [.lit (.bool true)], args := [d1, d2, d3, d4, d5, d6, d7] }
  | _ => none }
def offlineTrueRow : OpenClaim := { program := "ytlljblcjjcinnaadoor", sum := "f570fb8c531dc99820f5481f0f558b960955bd17d7c02eb27c7974f3efbcd192", func := "stockyard/stockyardlaw20.OfflineTrue", spec := "offlineTrue", inPlace := ["internal/bytealg.CountString", "internal/bytealg.IndexByteString", "internal/bytealg.IndexString"], unfollowed := true, recurses := true, named := ["unicode/utf8.first", "unicode/utf8.acceptRanges", "internal/bytealg.MaxLen"], apart := false, laid := [("unicode/utf8.acceptRanges", laid_unicode_utf8_acceptRanges), ("unicode/utf8.first", laid_unicode_utf8_first)] }
def OfflineTrueSaid : Prop := offlineTrueRow.holds Tryd.pinned (OpenSpec.ofChange offlineTrueSpec)

/-- ITS FALSE NEIGHBOUR: 'it returns false'. Refute it at one input. -/
def offlineTrueWrong : ChangeSpec := { name := "offlineTrue", fn := fun _ => fun
  | [d1, d2, d3, d4, d5, d6, d7] => { results := [.lit (.bool false)], args := [d1, d2, d3, d4, d5, d6, d7] }
  | _ => none }
def OfflineTrueWrongFalsely : Prop := offlineTrueRow.holds Tryd.pinned (OpenSpec.ofChange offlineTrueWrong)

/-- 'stockyardlaw20.OfflineTight': WHATEVER THE INPUT: true; the input reads as it did. -/
def offlineTightSpec : ChangeSpec := { name := "offlineTight", fn := fun _ => fun
  | [d1, d2, d3, d4, d5] => { results := [.lit (.bool true)], args := [d1, d2, d3, d4, d5] }
  | _ => none }
def offlineTightRow : OpenClaim := { program := "ytlljblcjjcinnaadoor", sum := "f570fb8c531dc99820f5481f0f558b960955bd17d7c02eb27c7974f3efbcd192", func := "stockyard/stockyardlaw20.OfflineTight", spec := "offlineTight", inPlace := ["internal/bytealg.CountString", "internal/bytealg.IndexByteString", "internal/bytealg.IndexString"], unfollowed := true, recurses := true, named := ["unicode/utf8.first", "unicode/utf8.acceptRanges", "internal/bytealg.MaxLen"], apart := false, laid := [("unicode/utf8.acceptRanges", laid_unicode_utf8_acceptRanges), ("unicode/utf8.first", laid_unicode_utf8_first)] }
def OfflineTightSaid : Prop := offlineTightRow.holds Tryd.pinned (OpenSpec.ofChange offlineTightSpec)

/-- ITS FALSE NEIGHBOUR: 'it returns false'. Refute it at one input. -/
def offlineTightWrong : ChangeSpec := { name := "offlineTight", fn := fun _ => fun
  | [d1, d2, d3, d4, d5] => { results := [.lit (.bool false)], args := [d1, d2, d3, d4, d5] }
  | _ => none }
def OfflineTightWrongFalsely : Prop := offlineTightRow.holds Tryd.pinned (OpenSpec.ofChange offlineTightWrong)

/-- 'stockyardlaw20.OfflineRenewedTrue': WHATEVER THE INPUT: true; the input reads as it did. -/
def offlineRenewedTrueSpec : ChangeSpec := { name := "offlineRenewedTrue", fn := fun _ => fun
  | [d1, d2, d3, d4, d5] => { results := [.lit (.bool true)], args := [d1, d2, d3, d4, d5] }
  | _ => none }
def offlineRenewedTrueRow : OpenClaim := { program := "ytlljblcjjcinnaadoor", sum := "f570fb8c531dc99820f5481f0f558b960955bd17d7c02eb27c7974f3efbcd192", func := "stockyard/stockyardlaw20.OfflineRenewedTrue", spec := "offlineRenewedTrue", inPlace := ["internal/bytealg.CountString", "internal/bytealg.IndexByteString", "internal/bytealg.IndexString"], unfollowed := true, recurses := true, named := ["unicode/utf8.first", "unicode/utf8.acceptRanges", "internal/bytealg.MaxLen"], apart := false, laid := [("unicode/utf8.acceptRanges", laid_unicode_utf8_acceptRanges), ("unicode/utf8.first", laid_unicode_utf8_first)] }
def OfflineRenewedTrueSaid : Prop := offlineRenewedTrueRow.holds Tryd.pinned (OpenSpec.ofChange offlineRenewedTrueSpec)

/-- ITS FALSE NEIGHBOUR: 'it returns false'. Refute it at one input. -/
def offlineRenewedTrueWrong : ChangeSpec := { name := "offlineRenewedTrue", fn := fun _ => fun
  | [d1, d2, d3, d4, d5] => { results := [.lit (.bool false)], args := [d1, d2, d3, d4, d5] }
  | _ => none }
def OfflineRenewedTrueWrongFalsely : Prop := offlineRenewedTrueRow.holds Tryd.pinned (OpenSpec.ofChange offlineRenewedTrueWrong)

/-- 'stockyardlaw20.OfflineReturns': WHATEVER THE INPUT: true; the input reads as it did. -/
def offlineReturnsSpec : ChangeSpec := { name := "offlineReturns", fn := fun _ => fun
  | [d1, d2, d3, d4, d5, d6] => { results := [.lit (.bool true)], args := [d1, d2, d3, d4, d5, d6] }
  | _ => none }
def offlineReturnsRow : OpenClaim := { program := "ytlljblcjjcinnaadoor", sum := "f570fb8c531dc99820f5481f0f558b960955bd17d7c02eb27c7974f3efbcd192", func := "stockyard/stockyardlaw20.OfflineReturns", spec := "offlineReturns", inPlace := ["internal/bytealg.CountString", "internal/bytealg.IndexByteString", "internal/bytealg.IndexString", "internal/bytealg.abigen_runtime_cmpstring"], unfollowed := true, recurses := true, named := ["unicode/utf8.first", "unicode/utf8.acceptRanges", "internal/bytealg.MaxLen"], apart := false, laid := [("unicode/utf8.acceptRanges", laid_unicode_utf8_acceptRanges), ("unicode/utf8.first", laid_unicode_utf8_first)] }
def OfflineReturnsSaid : Prop := offlineReturnsRow.holds Tryd.pinned (OpenSpec.ofChange offlineReturnsSpec)

/-- ITS FALSE NEIGHBOUR: 'it returns false'. Refute it at one input. -/
def offlineReturnsWrong : ChangeSpec := { name := "offlineReturns", fn := fun _ => fun
  | [d1, d2, d3, d4, d5, d6] => { results := [.lit (.bool false)], args := [d1, d2, d3, d4, d5, d6] }
  | _ => none }
def OfflineReturnsWrongFalsely : Prop := offlineReturnsRow.holds Tryd.pinned (OpenSpec.ofChange offlineReturnsWrong)

/-- 'stockyardlaw20.OfflineHeld': WHATEVER THE INPUT: true; the input reads as it did. -/
def offlineHeldSpec : ChangeSpec := { name := "offlineHeld", fn := fun _ => fun
  | [d1, d2, d3, d4, d5, d6] => { results := [.lit (.bool true)], args := [d1, d2, d3, d4, d5, d6] }
  | _ => none }
def offlineHeldRow : OpenClaim := { program := "ytlljblcjjcinnaadoor", sum := "f570fb8c531dc99820f5481f0f558b960955bd17d7c02eb27c7974f3efbcd192", func := "stockyard/stockyardlaw20.OfflineHeld", spec := "offlineHeld", inPlace := ["internal/bytealg.CountString", "internal/bytealg.IndexByteString", "internal/bytealg.IndexString", "internal/bytealg.abigen_runtime_cmpstring"], unfollowed := true, recurses := true, named := ["unicode/utf8.first", "unicode/utf8.acceptRanges", "internal/bytealg.MaxLen"], apart := false, laid := [("unicode/utf8.acceptRanges", laid_unicode_utf8_acceptRanges), ("unicode/utf8.first", laid_unicode_utf8_first)] }
def OfflineHeldSaid : Prop := offlineHeldRow.holds Tryd.pinned (OpenSpec.ofChange offlineHeldSpec)

/-- ITS FALSE NEIGHBOUR: 'it returns false'. Refute it at one input. -/
def offlineHeldWrong : ChangeSpec := { name := "offlineHeld", fn := fun _ => fun
  | [d1, d2, d3, d4, d5, d6] => { results := [.lit (.bool false)], args := [d1, d2, d3, d4, d5, d6] }
  | _ => none }
def OfflineHeldWrongFalsely : Prop := offlineHeldRow.holds Tryd.pinned (OpenSpec.ofChange offlineHeldWrong)

/- THE SECOND FORM. 'bulk': how many values and letters a reading holds, each counted each time it is reached (what is shared counts as often as it is met; a slice's spare places count too). A statement '..UptoSaid' is the law's where the arguments, and the package variables that the reading takes, are together of bulk at most 1048576: NARROWER than '..Said'. Prove '..Said' where nothing that the law and all that it calls make is longer than what came in: it says more and counts as full. Else prove '..UptoSaid'. A law counts once. -/
mutual
def uptoBulk {H : Type} : DataW H → Nat
  | .lit (.string bytes) => bytes.length + 1
  | .lit _ => 1
  | .nil => 1
  | .ptr d => uptoBulk d + 1
  | .slice elems spare => uptoBulkAll elems + uptoBulkAll spare + 1
  | .agg parts => uptoBulkAll parts + 1
  | .iface _ d => uptoBulk d + 1
  | .map entries => uptoBulkEntries entries + 1
  | .held _ => 1
def uptoBulkAll {H : Type} : List (DataW H) → Nat
  | [] => 0
  | d :: r => uptoBulk d + uptoBulkAll r
def uptoBulkEntries {H : Type} : List (Lit × DataW H) → Nat
  | [] => 0
  | x :: r => uptoBulkEntry x + uptoBulkEntries r
def uptoBulkEntry {H : Type} : Lit × DataW H → Nat
  | (.string bytes, d) => bytes.length + uptoBulk d + 1
  | (_, d) => uptoBulk d + 1
 end
def uptoSmall : (H : Type) → List (DataW H) → Bool := fun _ ds => decide (uptoBulkAll ds ≤ 1048576)
def OpenSpec.upto (s : _root_.Go.ChangeSpec) : _root_.Go.OpenSpec := { _root_.Go.OpenSpec.ofChange s with cond := some uptoSmall }

/-- 'stockyardlaw20.OfflineFalls', WHERE WHAT IT READS IS OF BULK AT MOST 1048576: true; the input reads as it did. -/
def offlineFallsUptoRow : OpenClaim := { program := "ytlljblcjjcinnaadoor", sum := "f570fb8c531dc99820f5481f0f558b960955bd17d7c02eb27c7974f3efbcd192", func := "stockyard/stockyardlaw20.OfflineFalls", spec := "offlineFalls", inPlace := ["internal/bytealg.CountString", "internal/bytealg.IndexByteString", "internal/bytealg.IndexString"], unfollowed := true, recurses := true, named := ["unicode/utf8.first", "unicode/utf8.acceptRanges", "internal/bytealg.MaxLen"], apart := false, laid := [("unicode/utf8.acceptRanges", laid_unicode_utf8_acceptRanges), ("unicode/utf8.first", laid_unicode_utf8_first)], narrowed := true }
def OfflineFallsUptoSaid : Prop := offlineFallsUptoRow.holds Tryd.pinned (OpenSpec.upto offlineFallsSpec)

/-- 'stockyardlaw20.OfflineBegins', WHERE WHAT IT READS IS OF BULK AT MOST 1048576: true; the input reads as it did. -/
def offlineBeginsUptoRow : OpenClaim := { program := "ytlljblcjjcinnaadoor", sum := "f570fb8c531dc99820f5481f0f558b960955bd17d7c02eb27c7974f3efbcd192", func := "stockyard/stockyardlaw20.OfflineBegins", spec := "offlineBegins", inPlace := ["internal/bytealg.CountString", "internal/bytealg.IndexByteString", "internal/bytealg.IndexString"], unfollowed := true, recurses := true, named := ["unicode/utf8.first", "unicode/utf8.acceptRanges", "internal/bytealg.MaxLen"], apart := false, laid := [("unicode/utf8.acceptRanges", laid_unicode_utf8_acceptRanges), ("unicode/utf8.first", laid_unicode_utf8_first)], narrowed := true }
def OfflineBeginsUptoSaid : Prop := offlineBeginsUptoRow.holds Tryd.pinned (OpenSpec.upto offlineBeginsSpec)

/-- 'stockyardlaw20.OfflineRenewed', WHERE WHAT IT READS IS OF BULK AT MOST 1048576: true; the input reads as it did. -/
def offlineRenewedUptoRow : OpenClaim := { program := "ytlljblcjjcinnaadoor", sum := "f570fb8c531dc99820f5481f0f558b960955bd17d7c02eb27c7974f3efbcd192", func := "stockyard/stockyardlaw20.OfflineRenewed", spec := "offlineRenewed", inPlace := ["internal/bytealg.CountString", "internal/bytealg.IndexByteString", "internal/bytealg.IndexString"], unfollowed := true, recurses := true, named := ["unicode/utf8.first", "unicode/utf8.acceptRanges", "internal/bytealg.MaxLen"], apart := false, laid := [("unicode/utf8.acceptRanges", laid_unicode_utf8_acceptRanges), ("unicode/utf8.first", laid_unicode_utf8_first)], narrowed := true }
def OfflineRenewedUptoSaid : Prop := offlineRenewedUptoRow.holds Tryd.pinned (OpenSpec.upto offlineRenewedSpec)

/-- 'stockyardlaw20.OfflineRenews', WHERE WHAT IT READS IS OF BULK AT MOST 1048576: true; the input reads as it did. -/
def offlineRenewsUptoRow : OpenClaim := { program := "ytlljblcjjcinnaadoor", sum := "f570fb8c531dc99820f5481f0f558b960955bd17d7c02eb27c7974f3efbcd192", func := "stockyard/stockyardlaw20.OfflineRenews", spec := "offlineRenews", inPlace := ["internal/bytealg.CountString", "internal/bytealg.IndexByteString", "internal/bytealg.IndexString"], unfollowed := true, recurses := true, named := ["unicode/utf8.first", "unicode/utf8.acceptRanges", "internal/bytealg.MaxLen"], apart := false, laid := [("unicode/utf8.acceptRanges", laid_unicode_utf8_acceptRanges), ("unicode/utf8.first", laid_unicode_utf8_first)], narrowed := true }
def OfflineRenewsUptoSaid : Prop := offlineRenewsUptoRow.holds Tryd.pinned (OpenSpec.upto offlineRenewsSpec)

/-- 'stockyardlaw20.OfflineTrue', WHERE WHAT IT READS IS OF BULK AT MOST 1048576: true; the input reads as it did. -/
def offlineTrueUptoRow : OpenClaim := { program := "ytlljblcjjcinnaadoor", sum := "f570fb8c531dc99820f5481f0f558b960955bd17d7c02eb27c7974f3efbcd192", func := "stockyard/stockyardlaw20.OfflineTrue", spec := "offlineTrue", inPlace := ["internal/bytealg.CountString", "internal/bytealg.IndexByteString", "internal/bytealg.IndexString"], unfollowed := true, recurses := true, named := ["unicode/utf8.first", "unicode/utf8.acceptRanges", "internal/bytealg.MaxLen"], apart := false, laid := [("unicode/utf8.acceptRanges", laid_unicode_utf8_acceptRanges), ("unicode/utf8.first", laid_unicode_utf8_first)], narrowed := true }
def OfflineTrueUptoSaid : Prop := offlineTrueUptoRow.holds Tryd.pinned (OpenSpec.upto offlineTrueSpec)

/-- 'stockyardlaw20.OfflineTight', WHERE WHAT IT READS IS OF BULK AT MOST 1048576: true; the input reads as it did. -/
def offlineTightUptoRow : OpenClaim := { program := "ytlljblcjjcinnaadoor", sum := "f570fb8c531dc99820f5481f0f558b960955bd17d7c02eb27c7974f3efbcd192", func := "stockyard/stockyardlaw20.OfflineTight", spec := "offlineTight", inPlace := ["internal/bytealg.CountString", "internal/bytealg.IndexByteString", "internal/bytealg.IndexString"], unfollowed := true, recurses := true, named := ["unicode/utf8.first", "unicode/utf8.acceptRanges", "internal/bytealg.MaxLen"], apart := false, laid := [("unicode/utf8.acceptRanges", laid_unicode_utf8_acceptRanges), ("unicode/utf8.first", laid_unicode_utf8_first)], narrowed := true }
def OfflineTightUptoSaid : Prop := offlineTightUptoRow.holds Tryd.pinned (OpenSpec.upto offlineTightSpec)

/-- 'stockyardlaw20.OfflineRenewedTrue', WHERE WHAT IT READS IS OF BULK AT MOST 1048576: true; the input reads as it did. -/
def offlineRenewedTrueUptoRow : OpenClaim := { program := "ytlljblcjjcinnaadoor", sum := "f570fb8c531dc99820f5481f0f558b960955bd17d7c02eb27c7974f3efbcd192", func := "stockyard/stockyardlaw20.OfflineRenewedTrue", spec := "offlineRenewedTrue", inPlace := ["internal/bytealg.CountString", "internal/bytealg.IndexByteString", "internal/bytealg.IndexString"], unfollowed := true, recurses := true, named := ["unicode/utf8.first", "unicode/utf8.acceptRanges", "internal/bytealg.MaxLen"], apart := false, laid := [("unicode/utf8.acceptRanges", laid_unicode_utf8_acceptRanges), ("unicode/utf8.first", laid_unicode_utf8_first)], narrowed := true }
def OfflineRenewedTrueUptoSaid : Prop := offlineRenewedTrueUptoRow.holds Tryd.pinned (OpenSpec.upto offlineRenewedTrueSpec)

/-- 'stockyardlaw20.OfflineReturns', WHERE WHAT IT READS IS OF BULK AT MOST 1048576: true; the input reads as it did. -/
def offlineReturnsUptoRow : OpenClaim := { program := "ytlljblcjjcinnaadoor", sum := "f570fb8c531dc99820f5481f0f558b960955bd17d7c02eb27c7974f3efbcd192", func := "stockyard/stockyardlaw20.OfflineReturns", spec := "offlineReturns", inPlace := ["internal/bytealg.CountString", "internal/bytealg.IndexByteString", "internal/bytealg.IndexString", "internal/bytealg.abigen_runtime_cmpstring"], unfollowed := true, recurses := true, named := ["unicode/utf8.first", "unicode/utf8.acceptRanges", "internal/bytealg.MaxLen"], apart := false, laid := [("unicode/utf8.acceptRanges", laid_unicode_utf8_acceptRanges), ("unicode/utf8.first", laid_unicode_utf8_first)], narrowed := true }
def OfflineReturnsUptoSaid : Prop := offlineReturnsUptoRow.holds Tryd.pinned (OpenSpec.upto offlineReturnsSpec)

/-- 'stockyardlaw20.OfflineHeld', WHERE WHAT IT READS IS OF BULK AT MOST 1048576: true; the input reads as it did. -/
def offlineHeldUptoRow : OpenClaim := { program := "ytlljblcjjcinnaadoor", sum := "f570fb8c531dc99820f5481f0f558b960955bd17d7c02eb27c7974f3efbcd192", func := "stockyard/stockyardlaw20.OfflineHeld", spec := "offlineHeld", inPlace := ["internal/bytealg.CountString", "internal/bytealg.IndexByteString", "internal/bytealg.IndexString", "internal/bytealg.abigen_runtime_cmpstring"], unfollowed := true, recurses := true, named := ["unicode/utf8.first", "unicode/utf8.acceptRanges", "internal/bytealg.MaxLen"], apart := false, laid := [("unicode/utf8.acceptRanges", laid_unicode_utf8_acceptRanges), ("unicode/utf8.first", laid_unicode_utf8_first)], narrowed := true }
def OfflineHeldUptoSaid : Prop := offlineHeldUptoRow.holds Tryd.pinned (OpenSpec.upto offlineHeldSpec)

end Rows
end Go.Proofs.YtlljblcjjcinnaaDoor

/-
  NARROWER THAN 'FOR EVERY INPUT', by the rows' own cells (each row's printed sentence says how): FiletypeFormats: laid · FiletypeParses: laid · FiletypeAll: laid · FiletypeSteps: laid · FiletypeFollows: laid · FiletypeNeighbour: laid · FiletypeStores: laid · FiletypeLocals: laid · FiletypeBack: laid · FiletypeLines: laid.
  DERIVED. THE GIVEN ROWS OF THIS SEAT. 10 by the template 'for every input the law returns true; each argument reads behind the call as it read before'; 0 by the template 'total and deterministic' (their statements: YtolmcdglemkchaaDoorTotals.lean).
  GIVEN WITH THE SEED: the statements are not yours to turn. If you find one false, say at which input.
  Laid BY PROGRAM, IN A SANDBOX (cutbox-rows.mjs): the forced cells as the released guide's own fill.sh prints them over the translation 48637cc4b20caa32… (all of the seat's roots in one cut). By AI agents, Wed Nov 11 2026. No macro, syntax, notation, axiom, sorry.
-/
import Derived.Test.YtolmcdglemkchaaDoorChecked
import GoSem.PinnedTables
import GoSem.Claim
import GoSem.ClaimJoined
import GoSem.ClaimMapViews
import Derived.JoinedTies
import Derived.KernelRfl
namespace Go.Proofs.YtolmcdglemkchaaDoor
/- THE CELL 'sum', in the pinned program and in every row, IS THE sha256 OF THE DUMP (.gsa) THAT YtolmcdglemkchaaDoorProg.lean LOADS. Nothing in Lean hashes anything: it is a label: what it is worth is what the hold of that sum in a sandbox is worth. -/
noncomputable def Tryd.pinned : Pinned := { name := "ytolmcdglemkchaadoor", sum := "48637cc4b20caa3240ac2c7712b5e3bc3003e64802a98b72a2ebe89a1b059881", checked := Tryd.checked }
namespace Rows
def none {H : Type} : Left H := { results := [], args := [] }

/- WHAT THE LISTED PACKAGE-LEVEL VARIABLES READ AS WHEN THE CALL BEGINS. Each datum BY PROGRAM (the guide's laid-datum.mjs) off the statement by which the dump's own 'gosem.cut.vars' lays the variable. In a bare row this is a premise. The card (YtolmcdglemkchaaDoorCards.lean) ties it to the program's text. -/
def laid_unicode_utf8_acceptRanges {H : Type} : DataW H := .agg [.agg [.lit (.int .u8 128), .lit (.int .u8 191)], .agg [.lit (.int .u8 160), .lit (.int .u8 191)], .agg [.lit (.int .u8 128), .lit (.int .u8 159)], .agg [.lit (.int .u8 144), .lit (.int .u8 191)], .agg [.lit (.int .u8 128), .lit (.int .u8 143)], .agg [.lit (.int .u8 0), .lit (.int .u8 0)], .agg [.lit (.int .u8 0), .lit (.int .u8 0)], .agg [.lit (.int .u8 0), .lit (.int .u8 0)], .agg [.lit (.int .u8 0), .lit (.int .u8 0)], .agg [.lit (.int .u8 0), .lit (.int .u8 0)], .agg [.lit (.int .u8 0), .lit (.int .u8 0)], .agg [.lit (.int .u8 0), .lit (.int .u8 0)], .agg [.lit (.int .u8 0), .lit (.int .u8 0)], .agg [.lit (.int .u8 0), .lit (.int .u8 0)], .agg [.lit (.int .u8 0), .lit (.int .u8 0)], .agg [.lit (.int .u8 0), .lit (.int .u8 0)]]
/-- One of Go's own tables, pinned by name: the form's constant. -/
def laid_unicode_utf8_first : DataW Unit := Go.Pinned.utf8First

/-- 'stockyardlaw09.FiletypeFormats': WHATEVER THE INPUT: true; the input reads as it did. -/
def filetypeFormatsSpec : ChangeSpec := { name := "filetypeFormats", fn := fun _ => fun
  | [d] => { results := [.lit (.bool true)], args := [d] }
  | _ => none }
def filetypeFormatsRow : OpenClaim := { program := "ytolmcdglemkchaadoor", sum := "48637cc4b20caa3240ac2c7712b5e3bc3003e64802a98b72a2ebe89a1b059881", func := "stockyard/stockyardlaw09.FiletypeFormats", spec := "filetypeFormats", inPlace := ["internal/bytealg.IndexByteString", "internal/bytealg.IndexString", "internal/bytealg.CountString", "internal/bytealg.IndexByte", "internal/abi.NoEscape", "internal/bytealg.MakeNoZero"], named := ["internal/bytealg.MaxLen", "unicode/utf8.first", "unicode/utf8.acceptRanges"], apart := false, laid := [("unicode/utf8.acceptRanges", laid_unicode_utf8_acceptRanges), ("unicode/utf8.first", laid_unicode_utf8_first)] }
def FiletypeFormatsSaid : Prop := filetypeFormatsRow.holds Tryd.pinned (OpenSpec.ofChange filetypeFormatsSpec)

/-- ITS FALSE NEIGHBOUR: 'it returns false'. Refute it at one input. -/
def filetypeFormatsWrong : ChangeSpec := { name := "filetypeFormats", fn := fun _ => fun
  | [d] => { results := [.lit (.bool false)], args := [d] }
  | _ => none }
def FiletypeFormatsWrongFalsely : Prop := filetypeFormatsRow.holds Tryd.pinned (OpenSpec.ofChange filetypeFormatsWrong)

/-- 'stockyardlaw09.FiletypeParses': WHATEVER THE INPUT: true; the input reads as it did. -/
def filetypeParsesSpec : ChangeSpec := { name := "filetypeParses", fn := fun _ => fun
  | [d] => { results := [.lit (.bool true)], args := [d] }
  | _ => none }
def filetypeParsesRow : OpenClaim := { program := "ytolmcdglemkchaadoor", sum := "48637cc4b20caa3240ac2c7712b5e3bc3003e64802a98b72a2ebe89a1b059881", func := "stockyard/stockyardlaw09.FiletypeParses", spec := "filetypeParses", inPlace := ["internal/bytealg.IndexByteString", "internal/bytealg.IndexString", "internal/bytealg.CountString", "internal/bytealg.IndexByte", "internal/abi.NoEscape", "internal/bytealg.MakeNoZero"], named := ["internal/bytealg.MaxLen", "unicode/utf8.first", "unicode/utf8.acceptRanges"], apart := false, laid := [("unicode/utf8.acceptRanges", laid_unicode_utf8_acceptRanges), ("unicode/utf8.first", laid_unicode_utf8_first)] }
def FiletypeParsesSaid : Prop := filetypeParsesRow.holds Tryd.pinned (OpenSpec.ofChange filetypeParsesSpec)

/-- ITS FALSE NEIGHBOUR: 'it returns false'. Refute it at one input. -/
def filetypeParsesWrong : ChangeSpec := { name := "filetypeParses", fn := fun _ => fun
  | [d] => { results := [.lit (.bool false)], args := [d] }
  | _ => none }
def FiletypeParsesWrongFalsely : Prop := filetypeParsesRow.holds Tryd.pinned (OpenSpec.ofChange filetypeParsesWrong)

/-- 'stockyardlaw09.FiletypeAll': WHATEVER THE INPUT: true; the input reads as it did. -/
def filetypeAllSpec : ChangeSpec := { name := "filetypeAll", fn := fun _ => fun
  | [] => { results := [.lit (.bool true)], args := [] }
  | _ => none }
def filetypeAllRow : OpenClaim := { program := "ytolmcdglemkchaadoor", sum := "48637cc4b20caa3240ac2c7712b5e3bc3003e64802a98b72a2ebe89a1b059881", func := "stockyard/stockyardlaw09.FiletypeAll", spec := "filetypeAll", inPlace := ["internal/bytealg.IndexByteString", "internal/bytealg.IndexString", "internal/bytealg.CountString", "internal/bytealg.IndexByte", "internal/abi.NoEscape", "internal/bytealg.MakeNoZero"], named := ["internal/bytealg.MaxLen", "unicode/utf8.first", "unicode/utf8.acceptRanges"], apart := false, laid := [("unicode/utf8.acceptRanges", laid_unicode_utf8_acceptRanges), ("unicode/utf8.first", laid_unicode_utf8_first)] }
def FiletypeAllSaid : Prop := filetypeAllRow.holds Tryd.pinned (OpenSpec.ofChange filetypeAllSpec)

/-- ITS FALSE NEIGHBOUR: 'it returns false'. Refute it at one input. -/
def filetypeAllWrong : ChangeSpec := { name := "filetypeAll", fn := fun _ => fun
  | [] => { results := [.lit (.bool false)], args := [] }
  | _ => none }
def FiletypeAllWrongFalsely : Prop := filetypeAllRow.holds Tryd.pinned (OpenSpec.ofChange filetypeAllWrong)

/-- 'stockyardlaw09.FiletypeSteps': WHATEVER THE INPUT: true; the input reads as it did. -/
def filetypeStepsSpec : ChangeSpec := { name := "filetypeSteps", fn := fun _ => fun
  | [d1, d2, d3] => { results := [.lit (.bool true)], args := [d1, d2, d3] }
  | _ => none }
def filetypeStepsRow : OpenClaim := { program := "ytolmcdglemkchaadoor", sum := "48637cc4b20caa3240ac2c7712b5e3bc3003e64802a98b72a2ebe89a1b059881", func := "stockyard/stockyardlaw09.FiletypeSteps", spec := "filetypeSteps", inPlace := ["internal/bytealg.IndexByteString", "internal/bytealg.IndexString", "internal/bytealg.CountString", "internal/bytealg.IndexByte", "internal/abi.NoEscape", "internal/bytealg.MakeNoZero"], named := ["internal/bytealg.MaxLen", "unicode/utf8.first", "unicode/utf8.acceptRanges"], apart := false, laid := [("unicode/utf8.acceptRanges", laid_unicode_utf8_acceptRanges), ("unicode/utf8.first", laid_unicode_utf8_first)] }
def FiletypeStepsSaid : Prop := filetypeStepsRow.holds Tryd.pinned (OpenSpec.ofChange filetypeStepsSpec)

/-- ITS FALSE NEIGHBOUR: 'it returns false'. Refute it at one input. -/
def filetypeStepsWrong : ChangeSpec := { name := "filetypeSteps", fn := fun _ => fun
  | [d1, d2, d3] => { results := [.lit (.bool false)], args := [d1, d2, d3] }
  | _ => none }
def FiletypeStepsWrongFalsely : Prop := filetypeStepsRow.holds Tryd.pinned (OpenSpec.ofChange filetypeStepsWrong)

/-- 'stockyardlaw09.FiletypeFollows': WHATEVER THE INPUT: true; the input reads as it did. -/
def filetypeFollowsSpec : ChangeSpec := { name := "filetypeFollows", fn := fun _ => fun
  | [d1, d2] => { results := [.lit (.bool true)], args := [d1, d2] }
  | _ => none }
def filetypeFollowsRow : OpenClaim := { program := "ytolmcdglemkchaadoor", sum := "48637cc4b20caa3240ac2c7712b5e3bc3003e64802a98b72a2ebe89a1b059881", func := "stockyard/stockyardlaw09.FiletypeFollows", spec := "filetypeFollows", inPlace := ["internal/bytealg.IndexByteString", "internal/bytealg.IndexString", "internal/bytealg.CountString", "internal/bytealg.IndexByte", "internal/abi.NoEscape", "internal/bytealg.MakeNoZero"], named := ["internal/bytealg.MaxLen", "unicode/utf8.first", "unicode/utf8.acceptRanges"], apart := false, laid := [("unicode/utf8.acceptRanges", laid_unicode_utf8_acceptRanges), ("unicode/utf8.first", laid_unicode_utf8_first)] }
def FiletypeFollowsSaid : Prop := filetypeFollowsRow.holds Tryd.pinned (OpenSpec.ofChange filetypeFollowsSpec)

/-- ITS FALSE NEIGHBOUR: 'it returns false'. Refute it at one input. -/
def filetypeFollowsWrong : ChangeSpec := { name := "filetypeFollows", fn := fun _ => fun
  | [d1, d2] => { results := [.lit (.bool false)], args := [d1, d2] }
  | _ => none }
def FiletypeFollowsWrongFalsely : Prop := filetypeFollowsRow.holds Tryd.pinned (OpenSpec.ofChange filetypeFollowsWrong)

/-- 'stockyardlaw09.FiletypeNeighbour': WHATEVER THE INPUT: true; the input reads as it did. -/
def filetypeNeighbourSpec : ChangeSpec := { name := "filetypeNeighbour", fn := fun _ => fun
  | [d1, d2] => { results := [.lit (.bool true)], args := [d1, d2] }
  | _ => none }
def filetypeNeighbourRow : OpenClaim := { program := "ytolmcdglemkchaadoor", sum := "48637cc4b20caa3240ac2c7712b5e3bc3003e64802a98b72a2ebe89a1b059881", func := "stockyard/stockyardlaw09.FiletypeNeighbour", spec := "filetypeNeighbour", inPlace := ["internal/bytealg.CountString", "internal/bytealg.IndexByteString", "internal/bytealg.IndexString", "internal/bytealg.IndexByte", "internal/abi.NoEscape", "internal/bytealg.MakeNoZero"], named := ["unicode/utf8.first", "unicode/utf8.acceptRanges", "internal/bytealg.MaxLen"], apart := false, laid := [("unicode/utf8.acceptRanges", laid_unicode_utf8_acceptRanges), ("unicode/utf8.first", laid_unicode_utf8_first)] }
def FiletypeNeighbourSaid : Prop := filetypeNeighbourRow.holds Tryd.pinned (OpenSpec.ofChange filetypeNeighbourSpec)

/-- ITS FALSE NEIGHBOUR: 'it returns false'. Refute it at one input. -/
def filetypeNeighbourWrong : ChangeSpec := { name := "filetypeNeighbour", fn := fun _ => fun
  | [d1, d2] => { results := [.lit (.bool false)], args := [d1, d2] }
  | _ => none }
def FiletypeNeighbourWrongFalsely : Prop := filetypeNeighbourRow.holds Tryd.pinned (OpenSpec.ofChange filetypeNeighbourWrong)

/-- 'stockyardlaw09.FiletypeStores': WHATEVER THE INPUT: true; the input reads as it did. -/
def filetypeStoresSpec : ChangeSpec := { name := "filetypeStores", fn := fun _ => fun
  | [d1, d2, d3] => { results := [.lit (.bool true)], args := [d1, d2, d3] }
  | _ => none }
def filetypeStoresRow : OpenClaim := { program := "ytolmcdglemkchaadoor", sum := "48637cc4b20caa3240ac2c7712b5e3bc3003e64802a98b72a2ebe89a1b059881", func := "stockyard/stockyardlaw09.FiletypeStores", spec := "filetypeStores", inPlace := ["internal/bytealg.IndexByteString", "internal/bytealg.IndexString", "internal/bytealg.CountString", "internal/bytealg.IndexByte", "internal/abi.NoEscape", "internal/bytealg.MakeNoZero"], named := ["internal/bytealg.MaxLen", "unicode/utf8.first", "unicode/utf8.acceptRanges"], apart := false, laid := [("unicode/utf8.acceptRanges", laid_unicode_utf8_acceptRanges), ("unicode/utf8.first", laid_unicode_utf8_first)] }
def FiletypeStoresSaid : Prop := filetypeStoresRow.holds Tryd.pinned (OpenSpec.ofChange filetypeStoresSpec)

/-- ITS FALSE NEIGHBOUR: 'it returns false'. Refute it at one input. -/
def filetypeStoresWrong : ChangeSpec := { name := "filetypeStores", fn := fun _ => fun
  | [d1, d2, d3] => { results := [.lit (.bool false)], args := [d1, d2, d3] }
  | _ => none }
def FiletypeStoresWrongFalsely : Prop := filetypeStoresRow.holds Tryd.pinned (OpenSpec.ofChange filetypeStoresWrong)

/-- 'stockyardlaw09.FiletypeLocals': WHATEVER THE INPUT: true; the input reads as it did. -/
def filetypeLocalsSpec : ChangeSpec := { name := "filetypeLocals", fn := fun _ => fun
  | [d1, d2, d3] => { results := [.lit (.bool true)], args := [d1, d2, d3] }
  | _ => none }
def filetypeLocalsRow : OpenClaim := { program := "ytolmcdglemkchaadoor", sum := "48637cc4b20caa3240ac2c7712b5e3bc3003e64802a98b72a2ebe89a1b059881", func := "stockyard/stockyardlaw09.FiletypeLocals", spec := "filetypeLocals", inPlace := ["internal/bytealg.IndexByteString", "internal/bytealg.IndexString", "internal/bytealg.CountString", "internal/bytealg.IndexByte", "internal/abi.NoEscape", "internal/bytealg.MakeNoZero"], named := ["internal/bytealg.MaxLen", "unicode/utf8.first", "unicode/utf8.acceptRanges"], apart := false, laid := [("unicode/utf8.acceptRanges", laid_unicode_utf8_acceptRanges), ("unicode/utf8.first", laid_unicode_utf8_first)] }
def FiletypeLocalsSaid : Prop := filetypeLocalsRow.holds Tryd.pinned (OpenSpec.ofChange filetypeLocalsSpec)

/-- ITS FALSE NEIGHBOUR: 'it returns false'. Refute it at one input. -/
def filetypeLocalsWrong : ChangeSpec := { name := "filetypeLocals", fn := fun _ => fun
  | [d1, d2, d3] => { results := [.lit (.bool false)], args := [d1, d2, d3] }
  | _ => none }
def FiletypeLocalsWrongFalsely : Prop := filetypeLocalsRow.holds Tryd.pinned (OpenSpec.ofChange filetypeLocalsWrong)

/-- 'stockyardlaw09.FiletypeBack': WHATEVER THE INPUT: true; the input reads as it did. -/
def filetypeBackSpec : ChangeSpec := { name := "filetypeBack", fn := fun _ => fun
  | [d1, d2, d3] => { results := [.lit (.bool true)], args := [d1, d2, d3] }
  | _ => none }
def filetypeBackRow : OpenClaim := { program := "ytolmcdglemkchaadoor", sum := "48637cc4b20caa3240ac2c7712b5e3bc3003e64802a98b72a2ebe89a1b059881", func := "stockyard/stockyardlaw09.FiletypeBack", spec := "filetypeBack", inPlace := ["internal/bytealg.IndexByteString", "internal/bytealg.IndexString", "internal/bytealg.CountString", "internal/bytealg.IndexByte", "internal/abi.NoEscape", "internal/bytealg.MakeNoZero"], named := ["internal/bytealg.MaxLen", "unicode/utf8.first", "unicode/utf8.acceptRanges"], apart := false, laid := [("unicode/utf8.acceptRanges", laid_unicode_utf8_acceptRanges), ("unicode/utf8.first", laid_unicode_utf8_first)] }
def FiletypeBackSaid : Prop := filetypeBackRow.holds Tryd.pinned (OpenSpec.ofChange filetypeBackSpec)

/-- ITS FALSE NEIGHBOUR: 'it returns false'. Refute it at one input. -/
def filetypeBackWrong : ChangeSpec := { name := "filetypeBack", fn := fun _ => fun
  | [d1, d2, d3] => { results := [.lit (.bool false)], args := [d1, d2, d3] }
  | _ => none }
def FiletypeBackWrongFalsely : Prop := filetypeBackRow.holds Tryd.pinned (OpenSpec.ofChange filetypeBackWrong)

/-- 'stockyardlaw09.FiletypeLines': WHATEVER THE INPUT: true; the input reads as it did. -/
def filetypeLinesSpec : ChangeSpec := { name := "filetypeLines", fn := fun _ => fun
  | [d1, d2, d3] => { results := [.lit (.bool true)], args := [d1, d2, d3] }
  | _ => none }
def filetypeLinesRow : OpenClaim := { program := "ytolmcdglemkchaadoor", sum := "48637cc4b20caa3240ac2c7712b5e3bc3003e64802a98b72a2ebe89a1b059881", func := "stockyard/stockyardlaw09.FiletypeLines", spec := "filetypeLines", inPlace := ["internal/bytealg.IndexByteString", "internal/bytealg.IndexString", "internal/bytealg.CountString", "internal/bytealg.IndexByte", "internal/abi.NoEscape", "internal/bytealg.MakeNoZero"], named := ["internal/bytealg.MaxLen", "unicode/utf8.first", "unicode/utf8.acceptRanges"], apart := false, laid := [("unicode/utf8.acceptRanges", laid_unicode_utf8_acceptRanges), ("unicode/utf8.first", laid_unicode_utf8_first)] }
def FiletypeLinesSaid : Prop := filetypeLinesRow.holds Tryd.pinned (OpenSpec.ofChange filetypeLinesSpec)

/-- ITS FALSE NEIGHBOUR: 'it returns false'. Refute it at one input. -/
def filetypeLinesWrong : ChangeSpec := { name := "filetypeLines", fn := fun _ => fun
  | [d1, d2, d3] => { results := [.lit (.bool false)], args := [d1, d2, d3] }
  | _ => none }
def FiletypeLinesWrongFalsely : Prop := filetypeLinesRow.holds Tryd.pinned (OpenSpec.ofChange filetypeLinesWrong)

/- THE SECOND FORM. 'bulk': how many values and letters a reading holds, each counted each time it is reached (what is shared counts as often as it is met; a slice's spare places count too). A statement '..UptoSaid' is the law's where the arguments, and the package variables that the reading takes, are together of bulk at most 1048576: NARROWER than '..Said'. Prove '..Said' where nothing that the law and all that it calls make is longer than what came in: it says more and counts as full. Else prove '..UptoSaid'. A law counts once. -/
mutual
def uptoBulk {H : Type} : DataW H → Nat
  | .lit (.string bytes) => bytes.length + 1
  | .lit _ => 1
  | .nil => 1
  | .ptr d => uptoBulk d + 1
  | .slice elems spare => uptoBulkAll elems + uptoBulkAll spare + 1
  | .agg parts => uptoBulkAll parts + 1
  | .iface _ d => uptoBulk d + 1
  | .map entries => uptoBulkEntries entries + 1
  | .held _ => 1
def uptoBulkAll {H : Type} : List (DataW H) → Nat
  | [] => 0
  | d :: r => uptoBulk d + uptoBulkAll r
def uptoBulkEntries {H : Type} : List (Lit × DataW H) → Nat
  | [] => 0
  | x :: r => uptoBulkEntry x + uptoBulkEntries r
def uptoBulkEntry {H : Type} : Lit × DataW H → Nat
  | (.string bytes, d) => bytes.length + uptoBulk d + 1
  | (_, d) => uptoBulk d + 1
 end
def uptoSmall : (H : Type) → List (DataW H) → Bool := fun _ ds => decide (uptoBulkAll ds ≤ 1048576)
def OpenSpec.upto (s : _root_.Go.ChangeSpec) : _root_.Go.OpenSpec := { _root_.Go.OpenSpec.ofChange s with cond := some uptoSmall }

/-- 'stockyardlaw09.FiletypeFormats', WHERE WHAT IT READS IS OF BULK AT MOST 1048576: true; the input reads as it did. -/
def filetypeFormatsUptoRow : OpenClaim := { program := "ytolmcdglemkchaadoor", sum := "48637cc4b20caa3240ac2c7712b5e3bc3003e64802a98b72a2ebe89a1b059881", func := "stockyard/stockyardlaw09.FiletypeFormats", spec := "filetypeFormats", inPlace := ["internal/bytealg.IndexByteString", "internal/bytealg.IndexString", "internal/bytealg.CountString", "internal/bytealg.IndexByte", "internal/abi.NoEscape", "internal/bytealg.MakeNoZero"], named := ["internal/bytealg.MaxLen", "unicode/utf8.first", "unicode/utf8.acceptRanges"], apart := false, laid := [("unicode/utf8.acceptRanges", laid_unicode_utf8_acceptRanges), ("unicode/utf8.first", laid_unicode_utf8_first)], narrowed := true }
def FiletypeFormatsUptoSaid : Prop := filetypeFormatsUptoRow.holds Tryd.pinned (OpenSpec.upto filetypeFormatsSpec)

/-- 'stockyardlaw09.FiletypeParses', WHERE WHAT IT READS IS OF BULK AT MOST 1048576: true; the input reads as it did. -/
def filetypeParsesUptoRow : OpenClaim := { program := "ytolmcdglemkchaadoor", sum := "48637cc4b20caa3240ac2c7712b5e3bc3003e64802a98b72a2ebe89a1b059881", func := "stockyard/stockyardlaw09.FiletypeParses", spec := "filetypeParses", inPlace := ["internal/bytealg.IndexByteString", "internal/bytealg.IndexString", "internal/bytealg.CountString", "internal/bytealg.IndexByte", "internal/abi.NoEscape", "internal/bytealg.MakeNoZero"], named := ["internal/bytealg.MaxLen", "unicode/utf8.first", "unicode/utf8.acceptRanges"], apart := false, laid := [("unicode/utf8.acceptRanges", laid_unicode_utf8_acceptRanges), ("unicode/utf8.first", laid_unicode_utf8_first)], narrowed := true }
def FiletypeParsesUptoSaid : Prop := filetypeParsesUptoRow.holds Tryd.pinned (OpenSpec.upto filetypeParsesSpec)

/-- 'stockyardlaw09.FiletypeAll', WHERE WHAT IT READS IS OF BULK AT MOST 1048576: true; the input reads as it did. -/
def filetypeAllUptoRow : OpenClaim := { program := "ytolmcdglemkchaadoor", sum := "48637cc4b20caa3240ac2c7712b5e3bc3003e64802a98b72a2ebe89a1b059881", func := "stockyard/stockyardlaw09.FiletypeAll", spec := "filetypeAll", inPlace := ["internal/bytealg.IndexByteString", "internal/bytealg.IndexString", "internal/bytealg.CountString", "internal/bytealg.IndexByte", "internal/abi.NoEscape", "internal/bytealg.MakeNoZero"], named := ["internal/bytealg.MaxLen", "unicode/utf8.first", "unicode/utf8.acceptRanges"], apart := false, laid := [("unicode/utf8.acceptRanges", laid_unicode_utf8_acceptRanges), ("unicode/utf8.first", laid_unicode_utf8_first)], narrowed := true }
def FiletypeAllUptoSaid : Prop := filetypeAllUptoRow.holds Tryd.pinned (OpenSpec.upto filetypeAllSpec)

/-- 'stockyardlaw09.FiletypeSteps', WHERE WHAT IT READS IS OF BULK AT MOST 1048576: true; the input reads as it did. -/
def filetypeStepsUptoRow : OpenClaim := { program := "ytolmcdglemkchaadoor", sum := "48637cc4b20caa3240ac2c7712b5e3bc3003e64802a98b72a2ebe89a1b059881", func := "stockyard/stockyardlaw09.FiletypeSteps", spec := "filetypeSteps", inPlace := ["internal/bytealg.IndexByteString", "internal/bytealg.IndexString", "internal/bytealg.CountString", "internal/bytealg.IndexByte", "internal/abi.NoEscape", "internal/bytealg.MakeNoZero"], named := ["internal/bytealg.MaxLen", "unicode/utf8.first", "unicode/utf8.acceptRanges"], apart := false, laid := [("unicode/utf8.acceptRanges", laid_unicode_utf8_acceptRanges), ("unicode/utf8.first", laid_unicode_utf8_first)], narrowed := true }
def FiletypeStepsUptoSaid : Prop := filetypeStepsUptoRow.holds Tryd.pinned (OpenSpec.upto filetypeStepsSpec)

/-- 'stockyardlaw09.FiletypeFollows', WHERE WHAT IT READS IS OF BULK AT MOST 1048576: true; the input reads as it did. -/
def filetypeFollowsUptoRow : OpenClaim := { program := "ytolmcdglemkchaadoor", sum := "48637cc4b20caa3240ac2c7712b5e3bc3003e64802a98b72a2ebe89a1b059881", func := "stockyard/stockyardlaw09.FiletypeFollows", spec := "filetypeFollows", inPlace := ["internal/bytealg.IndexByteString", "internal/bytealg.IndexString", "internal/bytealg.CountString", "internal/bytealg.IndexByte", "internal/abi.NoEscape", "internal/bytealg.MakeNoZero"], named := ["internal/bytealg.MaxLen", "unicode/utf8.first", "unicode/utf8.acceptRanges"], apart := false, laid := [("unicode/utf8.acceptRanges", laid_unicode_utf8_acceptRanges), ("unicode/utf8.first", laid_unicode_utf8_first)], narrowed := true }
def FiletypeFollowsUptoSaid : Prop := filetypeFollowsUptoRow.holds Tryd.pinned (OpenSpec.upto filetypeFollowsSpec)

/-- 'stockyardlaw09.FiletypeNeighbour', WHERE WHAT IT READS IS OF BULK AT MOST 1048576: true; the input reads as it did. -/
def filetypeNeighbourUptoRow : OpenClaim := { program := "ytolmcdglemkchaadoor", sum := "48637cc4b20caa3240ac2c7712b5e3bc3003e64802a98b72a2ebe89a1b059881", func := "stockyard/stockyardlaw09.FiletypeNeighbour", spec := "filetypeNeighbour", inPlace := ["internal/bytealg.CountString", "internal/bytealg.IndexByteString", "internal/bytealg.IndexString", "internal/bytealg.IndexByte", "internal/abi.NoEscape", "internal/bytealg.MakeNoZero"], named := ["unicode/utf8.first", "unicode/utf8.acceptRanges", "internal/bytealg.MaxLen"], apart := false, laid := [("unicode/utf8.acceptRanges", laid_unicode_utf8_acceptRanges), ("unicode/utf8.first", laid_unicode_utf8_first)], narrowed := true }
def FiletypeNeighbourUptoSaid : Prop := filetypeNeighbourUptoRow.holds Tryd.pinned (OpenSpec.upto filetypeNeighbourSpec)

/-- 'stockyardlaw09.FiletypeStores', WHERE WHAT IT READS IS OF BULK AT MOST 1048576: true; the input reads as it did. -/
def filetypeStoresUptoRow : OpenClaim := { program := "ytolmcdglemkchaadoor", sum := "48637cc4b20caa3240ac2c7712b5e3bc3003e64802a98b72a2ebe89a1b059881", func := "stockyard/stockyardlaw09.FiletypeStores", spec := "filetypeStores", inPlace := ["internal/bytealg.IndexByteString", "internal/bytealg.IndexString", "internal/bytealg.CountString", "internal/bytealg.IndexByte", "internal/abi.NoEscape", "internal/bytealg.MakeNoZero"], named := ["internal/bytealg.MaxLen", "unicode/utf8.first", "unicode/utf8.acceptRanges"], apart := false, laid := [("unicode/utf8.acceptRanges", laid_unicode_utf8_acceptRanges), ("unicode/utf8.first", laid_unicode_utf8_first)], narrowed := true }
def FiletypeStoresUptoSaid : Prop := filetypeStoresUptoRow.holds Tryd.pinned (OpenSpec.upto filetypeStoresSpec)

/-- 'stockyardlaw09.FiletypeLocals', WHERE WHAT IT READS IS OF BULK AT MOST 1048576: true; the input reads as it did. -/
def filetypeLocalsUptoRow : OpenClaim := { program := "ytolmcdglemkchaadoor", sum := "48637cc4b20caa3240ac2c7712b5e3bc3003e64802a98b72a2ebe89a1b059881", func := "stockyard/stockyardlaw09.FiletypeLocals", spec := "filetypeLocals", inPlace := ["internal/bytealg.IndexByteString", "internal/bytealg.IndexString", "internal/bytealg.CountString", "internal/bytealg.IndexByte", "internal/abi.NoEscape", "internal/bytealg.MakeNoZero"], named := ["internal/bytealg.MaxLen", "unicode/utf8.first", "unicode/utf8.acceptRanges"], apart := false, laid := [("unicode/utf8.acceptRanges", laid_unicode_utf8_acceptRanges), ("unicode/utf8.first", laid_unicode_utf8_first)], narrowed := true }
def FiletypeLocalsUptoSaid : Prop := filetypeLocalsUptoRow.holds Tryd.pinned (OpenSpec.upto filetypeLocalsSpec)

/-- 'stockyardlaw09.FiletypeBack', WHERE WHAT IT READS IS OF BULK AT MOST 1048576: true; the input reads as it did. -/
def filetypeBackUptoRow : OpenClaim := { program := "ytolmcdglemkchaadoor", sum := "48637cc4b20caa3240ac2c7712b5e3bc3003e64802a98b72a2ebe89a1b059881", func := "stockyard/stockyardlaw09.FiletypeBack", spec := "filetypeBack", inPlace := ["internal/bytealg.IndexByteString", "internal/bytealg.IndexString", "internal/bytealg.CountString", "internal/bytealg.IndexByte", "internal/abi.NoEscape", "internal/bytealg.MakeNoZero"], named := ["internal/bytealg.MaxLen", "unicode/utf8.first", "unicode/utf8.acceptRanges"], apart := false, laid := [("unicode/utf8.acceptRanges", laid_unicode_utf8_acceptRanges), ("unicode/utf8.first", laid_unicode_utf8_first)], narrowed := true }
def FiletypeBackUptoSaid : Prop := filetypeBackUptoRow.holds Tryd.pinned (OpenSpec.upto filetypeBackSpec)

/-- 'stockyardlaw09.FiletypeLines', WHERE WHAT IT READS IS OF BULK AT MOST 1048576: true; the input reads as it did. -/
def filetypeLinesUptoRow : OpenClaim := { program := "ytolmcdglemkchaadoor", sum := "48637cc4b20caa3240ac2c7712b5e3bc3003e64802a98b72a2ebe89a1b059881", func := "stockyard/stockyardlaw09.FiletypeLines", spec := "filetypeLines", inPlace := ["internal/bytealg.IndexByteString", "internal/bytealg.IndexString", "internal/bytealg.CountString", "internal/bytealg.IndexByte", "internal/abi.NoEscape", "internal/bytealg.MakeNoZero"], named := ["internal/bytealg.MaxLen", "unicode/utf8.first", "unicode/utf8.acceptRanges"], apart := false, laid := [("unicode/utf8.acceptRanges", laid_unicode_utf8_acceptRanges), ("unicode/utf8.first", laid_unicode_utf8_first)], narrowed := true }
def FiletypeLinesUptoSaid : Prop := filetypeLinesUptoRow.holds Tryd.pinned (OpenSpec.upto filetypeLinesSpec)

end Rows
end Go.Proofs.YtolmcdglemkchaaDoor

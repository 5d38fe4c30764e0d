/-
  NARROWER THAN 'FOR EVERY INPUT', by the rows' own cells (each row's printed sentence says how): OctalReads: laid · OctalWrites: laid · OctalBack: laid · OctalBlanks: laid · OctalSum: laid · HeaderParses: laid · HeaderPrints: laid · HeaderBack: laid · HeaderSum: laid · HeaderPrefix: laid.
  DERIVED. THE GIVEN ROWS OF THIS SEAT. 10 by the template 'for every input the law returns true; each argument reads behind the call as it read before'; 0 by the template 'total and deterministic' (their statements: YtfogkggkjmkdiaaDoorTotals.lean).
  GIVEN WITH THE SEED: the statements are not yours to turn. If you find one false, say at which input.
  Laid BY PROGRAM, IN A SANDBOX (cutbox-rows.mjs): the forced cells as the released guide's own fill.sh prints them over the translation 7c65532095f9b38a… (all of the seat's roots in one cut). By AI agents, Wed Nov 11 2026. No macro, syntax, notation, axiom, sorry.
-/
import Derived.Test.YtfogkggkjmkdiaaDoorChecked
import GoSem.PinnedTables
import GoSem.Claim
import GoSem.ClaimJoined
import GoSem.ClaimMapViews
import Derived.JoinedTies
import Derived.KernelRfl
namespace Go.Proofs.YtfogkggkjmkdiaaDoor
/- THE CELL 'sum', in the pinned program and in every row, IS THE sha256 OF THE DUMP (.gsa) THAT YtfogkggkjmkdiaaDoorProg.lean LOADS. Nothing in Lean hashes anything: it is a label: what it is worth is what the hold of that sum in a sandbox is worth. -/
noncomputable def Tryd.pinned : Pinned := { name := "ytfogkggkjmkdiaadoor", sum := "7c65532095f9b38aa8b50785f444cf30f8d0dffb5ef52139b4e0e835926b8d38", checked := Tryd.checked }
namespace Rows
def none {H : Type} : Left H := { results := [], args := [] }

/- WHAT THE LISTED PACKAGE-LEVEL VARIABLES READ AS WHEN THE CALL BEGINS. Each datum BY PROGRAM (the guide's laid-datum.mjs) off the statement by which the dump's own 'gosem.cut.vars' lays the variable. In a bare row this is a premise. The card (YtfogkggkjmkdiaaDoorCards.lean) ties it to the program's text. -/
def laid_unicode_utf8_acceptRanges {H : Type} : DataW H := .agg [.agg [.lit (.int .u8 128), .lit (.int .u8 191)], .agg [.lit (.int .u8 160), .lit (.int .u8 191)], .agg [.lit (.int .u8 128), .lit (.int .u8 159)], .agg [.lit (.int .u8 144), .lit (.int .u8 191)], .agg [.lit (.int .u8 128), .lit (.int .u8 143)], .agg [.lit (.int .u8 0), .lit (.int .u8 0)], .agg [.lit (.int .u8 0), .lit (.int .u8 0)], .agg [.lit (.int .u8 0), .lit (.int .u8 0)], .agg [.lit (.int .u8 0), .lit (.int .u8 0)], .agg [.lit (.int .u8 0), .lit (.int .u8 0)], .agg [.lit (.int .u8 0), .lit (.int .u8 0)], .agg [.lit (.int .u8 0), .lit (.int .u8 0)], .agg [.lit (.int .u8 0), .lit (.int .u8 0)], .agg [.lit (.int .u8 0), .lit (.int .u8 0)], .agg [.lit (.int .u8 0), .lit (.int .u8 0)], .agg [.lit (.int .u8 0), .lit (.int .u8 0)]]
/-- One of Go's own tables, pinned by name: the form's constant. -/
def laid_unicode_utf8_first : DataW Unit := Go.Pinned.utf8First
def laid_onionskin_header_places {H : Type} : DataW H := .agg [.agg [.lit (.int .i64 100), .lit (.int .i64 8)], .agg [.lit (.int .i64 108), .lit (.int .i64 8)], .agg [.lit (.int .i64 116), .lit (.int .i64 8)], .agg [.lit (.int .i64 124), .lit (.int .i64 12)], .agg [.lit (.int .i64 136), .lit (.int .i64 12)], .agg [.lit (.int .i64 329), .lit (.int .i64 8)], .agg [.lit (.int .i64 337), .lit (.int .i64 8)]]

/-- 'onionskinlaw05.OctalReads': WHATEVER THE INPUT: true; the input reads as it did. -/
def octalReadsSpec : ChangeSpec := { name := "octalReads", fn := fun _ => fun
  | [d] => { results := [.lit (.bool true)], args := [d] }
  | _ => none }
def octalReadsRow : OpenClaim := { program := "ytfogkggkjmkdiaadoor", sum := "7c65532095f9b38aa8b50785f444cf30f8d0dffb5ef52139b4e0e835926b8d38", func := "onionskin/onionskinlaw05.OctalReads", spec := "octalReads", inPlace := ["internal/bytealg.IndexByteString", "internal/bytealg.IndexString"], named := ["unicode/utf8.first", "unicode/utf8.acceptRanges", "internal/bytealg.MaxLen"], apart := false, laid := [("unicode/utf8.acceptRanges", laid_unicode_utf8_acceptRanges), ("unicode/utf8.first", laid_unicode_utf8_first)] }
def OctalReadsSaid : Prop := octalReadsRow.holds Tryd.pinned (OpenSpec.ofChange octalReadsSpec)

/-- ITS FALSE NEIGHBOUR: 'it returns false'. Refute it at one input. -/
def octalReadsWrong : ChangeSpec := { name := "octalReads", fn := fun _ => fun
  | [d] => { results := [.lit (.bool false)], args := [d] }
  | _ => none }
def OctalReadsWrongFalsely : Prop := octalReadsRow.holds Tryd.pinned (OpenSpec.ofChange octalReadsWrong)

/-- 'onionskinlaw05.OctalWrites': WHATEVER THE INPUT: true; the input reads as it did. -/
def octalWritesSpec : ChangeSpec := { name := "octalWrites", fn := fun _ => fun
  | [d1, d2, d3] => { results := [.lit (.bool true)], args := [d1, d2, d3] }
  | _ => none }
def octalWritesRow : OpenClaim := { program := "ytfogkggkjmkdiaadoor", sum := "7c65532095f9b38aa8b50785f444cf30f8d0dffb5ef52139b4e0e835926b8d38", func := "onionskin/onionskinlaw05.OctalWrites", spec := "octalWrites", inPlace := ["internal/bytealg.IndexByteString", "internal/bytealg.IndexString"], recurses := true, named := ["unicode/utf8.first", "unicode/utf8.acceptRanges", "internal/bytealg.MaxLen"], apart := false, laid := [("unicode/utf8.acceptRanges", laid_unicode_utf8_acceptRanges), ("unicode/utf8.first", laid_unicode_utf8_first)] }
def OctalWritesSaid : Prop := octalWritesRow.holds Tryd.pinned (OpenSpec.ofChange octalWritesSpec)

/-- ITS FALSE NEIGHBOUR: 'it returns false'. Refute it at one input. -/
def octalWritesWrong : ChangeSpec := { name := "octalWrites", fn := fun _ => fun
  | [d1, d2, d3] => { results := [.lit (.bool false)], args := [d1, d2, d3] }
  | _ => none }
def OctalWritesWrongFalsely : Prop := octalWritesRow.holds Tryd.pinned (OpenSpec.ofChange octalWritesWrong)

/-- 'onionskinlaw05.OctalBack': WHATEVER THE INPUT: true; the input reads as it did. -/
def octalBackSpec : ChangeSpec := { name := "octalBack", fn := fun _ => fun
  | [d1, d2] => { results := [.lit (.bool true)], args := [d1, d2] }
  | _ => none }
def octalBackRow : OpenClaim := { program := "ytfogkggkjmkdiaadoor", sum := "7c65532095f9b38aa8b50785f444cf30f8d0dffb5ef52139b4e0e835926b8d38", func := "onionskin/onionskinlaw05.OctalBack", spec := "octalBack", inPlace := ["internal/bytealg.IndexByteString", "internal/bytealg.IndexString"], named := ["unicode/utf8.first", "unicode/utf8.acceptRanges", "internal/bytealg.MaxLen"], apart := false, laid := [("unicode/utf8.acceptRanges", laid_unicode_utf8_acceptRanges), ("unicode/utf8.first", laid_unicode_utf8_first)] }
def OctalBackSaid : Prop := octalBackRow.holds Tryd.pinned (OpenSpec.ofChange octalBackSpec)

/-- ITS FALSE NEIGHBOUR: 'it returns false'. Refute it at one input. -/
def octalBackWrong : ChangeSpec := { name := "octalBack", fn := fun _ => fun
  | [d1, d2] => { results := [.lit (.bool false)], args := [d1, d2] }
  | _ => none }
def OctalBackWrongFalsely : Prop := octalBackRow.holds Tryd.pinned (OpenSpec.ofChange octalBackWrong)

/-- 'onionskinlaw05.OctalBlanks': WHATEVER THE INPUT: true; the input reads as it did. -/
def octalBlanksSpec : ChangeSpec := { name := "octalBlanks", fn := fun _ => fun
  | [d1, d2, d3, d4] => { results := [.lit (.bool true)], args := [d1, d2, d3, d4] }
  | _ => none }
def octalBlanksRow : OpenClaim := { program := "ytfogkggkjmkdiaadoor", sum := "7c65532095f9b38aa8b50785f444cf30f8d0dffb5ef52139b4e0e835926b8d38", func := "onionskin/onionskinlaw05.OctalBlanks", spec := "octalBlanks", inPlace := ["internal/bytealg.IndexByteString", "internal/bytealg.IndexString"], named := ["unicode/utf8.first", "unicode/utf8.acceptRanges", "internal/bytealg.MaxLen"], apart := false, laid := [("unicode/utf8.acceptRanges", laid_unicode_utf8_acceptRanges), ("unicode/utf8.first", laid_unicode_utf8_first)] }
def OctalBlanksSaid : Prop := octalBlanksRow.holds Tryd.pinned (OpenSpec.ofChange octalBlanksSpec)

/-- ITS FALSE NEIGHBOUR: 'it returns false'. Refute it at one input. -/
def octalBlanksWrong : ChangeSpec := { name := "octalBlanks", fn := fun _ => fun
  | [d1, d2, d3, d4] => { results := [.lit (.bool false)], args := [d1, d2, d3, d4] }
  | _ => none }
def OctalBlanksWrongFalsely : Prop := octalBlanksRow.holds Tryd.pinned (OpenSpec.ofChange octalBlanksWrong)

/-- 'onionskinlaw05.OctalSum': WHATEVER THE INPUT: true; the input reads as it did. -/
def octalSumSpec : ChangeSpec := { name := "octalSum", fn := fun _ => fun
  | [d1, d2, d3] => { results := [.lit (.bool true)], args := [d1, d2, d3] }
  | _ => none }
def octalSumRow : OpenClaim := { program := "ytfogkggkjmkdiaadoor", sum := "7c65532095f9b38aa8b50785f444cf30f8d0dffb5ef52139b4e0e835926b8d38", func := "onionskin/onionskinlaw05.OctalSum", spec := "octalSum", inPlace := ["internal/bytealg.IndexByteString", "internal/bytealg.IndexString"], named := ["unicode/utf8.first", "unicode/utf8.acceptRanges", "internal/bytealg.MaxLen"], apart := false, laid := [("unicode/utf8.acceptRanges", laid_unicode_utf8_acceptRanges), ("unicode/utf8.first", laid_unicode_utf8_first)] }
def OctalSumSaid : Prop := octalSumRow.holds Tryd.pinned (OpenSpec.ofChange octalSumSpec)

/-- ITS FALSE NEIGHBOUR: 'it returns false'. Refute it at one input. -/
def octalSumWrong : ChangeSpec := { name := "octalSum", fn := fun _ => fun
  | [d1, d2, d3] => { results := [.lit (.bool false)], args := [d1, d2, d3] }
  | _ => none }
def OctalSumWrongFalsely : Prop := octalSumRow.holds Tryd.pinned (OpenSpec.ofChange octalSumWrong)

/-- 'onionskinlaw06.HeaderParses': WHATEVER THE INPUT: true; the input reads as it did. -/
def headerParsesSpec : ChangeSpec := { name := "headerParses", fn := fun _ => fun
  | [d] => { results := [.lit (.bool true)], args := [d] }
  | _ => none }
def headerParsesRow : OpenClaim := { program := "ytfogkggkjmkdiaadoor", sum := "7c65532095f9b38aa8b50785f444cf30f8d0dffb5ef52139b4e0e835926b8d38", func := "onionskin/onionskinlaw06.HeaderParses", spec := "headerParses", inPlace := ["internal/bytealg.IndexByteString", "internal/bytealg.IndexString"], unfollowed := true, recurses := true, named := ["onionskin/header.places", "unicode/utf8.first", "unicode/utf8.acceptRanges", "internal/bytealg.MaxLen"], apart := false, laid := [("unicode/utf8.acceptRanges", laid_unicode_utf8_acceptRanges), ("onionskin/header.places", laid_onionskin_header_places), ("unicode/utf8.first", laid_unicode_utf8_first)] }
def HeaderParsesSaid : Prop := headerParsesRow.holds Tryd.pinned (OpenSpec.ofChange headerParsesSpec)

/-- ITS FALSE NEIGHBOUR: 'it returns false'. Refute it at one input. -/
def headerParsesWrong : ChangeSpec := { name := "headerParses", fn := fun _ => fun
  | [d] => { results := [.lit (.bool false)], args := [d] }
  | _ => none }
def HeaderParsesWrongFalsely : Prop := headerParsesRow.holds Tryd.pinned (OpenSpec.ofChange headerParsesWrong)

/-- 'onionskinlaw06.HeaderPrints': WHATEVER THE INPUT: true; the input reads as it did. -/
def headerPrintsSpec : ChangeSpec := { name := "headerPrints", fn := fun _ => fun
  | [d] => { results := [.lit (.bool true)], args := [d] }
  | _ => none }
def headerPrintsRow : OpenClaim := { program := "ytfogkggkjmkdiaadoor", sum := "7c65532095f9b38aa8b50785f444cf30f8d0dffb5ef52139b4e0e835926b8d38", func := "onionskin/onionskinlaw06.HeaderPrints", spec := "headerPrints", inPlace := ["internal/bytealg.IndexByteString", "internal/bytealg.IndexString"], unfollowed := true, recurses := true, named := ["onionskin/header.places", "unicode/utf8.first", "unicode/utf8.acceptRanges", "internal/bytealg.MaxLen"], apart := false, laid := [("unicode/utf8.acceptRanges", laid_unicode_utf8_acceptRanges), ("onionskin/header.places", laid_onionskin_header_places), ("unicode/utf8.first", laid_unicode_utf8_first)] }
def HeaderPrintsSaid : Prop := headerPrintsRow.holds Tryd.pinned (OpenSpec.ofChange headerPrintsSpec)

/-- ITS FALSE NEIGHBOUR: 'it returns false'. Refute it at one input. -/
def headerPrintsWrong : ChangeSpec := { name := "headerPrints", fn := fun _ => fun
  | [d] => { results := [.lit (.bool false)], args := [d] }
  | _ => none }
def HeaderPrintsWrongFalsely : Prop := headerPrintsRow.holds Tryd.pinned (OpenSpec.ofChange headerPrintsWrong)

/-- 'onionskinlaw06.HeaderBack': WHATEVER THE INPUT: true; the input reads as it did. -/
def headerBackSpec : ChangeSpec := { name := "headerBack", fn := fun _ => fun
  | [d] => { results := [.lit (.bool true)], args := [d] }
  | _ => none }
def headerBackRow : OpenClaim := { program := "ytfogkggkjmkdiaadoor", sum := "7c65532095f9b38aa8b50785f444cf30f8d0dffb5ef52139b4e0e835926b8d38", func := "onionskin/onionskinlaw06.HeaderBack", spec := "headerBack", inPlace := ["internal/bytealg.IndexByteString", "internal/bytealg.IndexString"], unfollowed := true, recurses := true, named := ["onionskin/header.places", "unicode/utf8.first", "unicode/utf8.acceptRanges", "internal/bytealg.MaxLen"], apart := false, laid := [("unicode/utf8.acceptRanges", laid_unicode_utf8_acceptRanges), ("onionskin/header.places", laid_onionskin_header_places), ("unicode/utf8.first", laid_unicode_utf8_first)] }
def HeaderBackSaid : Prop := headerBackRow.holds Tryd.pinned (OpenSpec.ofChange headerBackSpec)

/-- ITS FALSE NEIGHBOUR: 'it returns false'. Refute it at one input. -/
def headerBackWrong : ChangeSpec := { name := "headerBack", fn := fun _ => fun
  | [d] => { results := [.lit (.bool false)], args := [d] }
  | _ => none }
def HeaderBackWrongFalsely : Prop := headerBackRow.holds Tryd.pinned (OpenSpec.ofChange headerBackWrong)

/-- 'onionskinlaw06.HeaderSum': WHATEVER THE INPUT: true; the input reads as it did. -/
def headerSumSpec : ChangeSpec := { name := "headerSum", fn := fun _ => fun
  | [d1, d2, d3] => { results := [.lit (.bool true)], args := [d1, d2, d3] }
  | _ => none }
def headerSumRow : OpenClaim := { program := "ytfogkggkjmkdiaadoor", sum := "7c65532095f9b38aa8b50785f444cf30f8d0dffb5ef52139b4e0e835926b8d38", func := "onionskin/onionskinlaw06.HeaderSum", spec := "headerSum", inPlace := ["internal/bytealg.IndexByteString", "internal/bytealg.IndexString"], unfollowed := true, recurses := true, named := ["onionskin/header.places", "unicode/utf8.first", "unicode/utf8.acceptRanges", "internal/bytealg.MaxLen"], apart := false, laid := [("unicode/utf8.acceptRanges", laid_unicode_utf8_acceptRanges), ("onionskin/header.places", laid_onionskin_header_places), ("unicode/utf8.first", laid_unicode_utf8_first)] }
def HeaderSumSaid : Prop := headerSumRow.holds Tryd.pinned (OpenSpec.ofChange headerSumSpec)

/-- ITS FALSE NEIGHBOUR: 'it returns false'. Refute it at one input. -/
def headerSumWrong : ChangeSpec := { name := "headerSum", fn := fun _ => fun
  | [d1, d2, d3] => { results := [.lit (.bool false)], args := [d1, d2, d3] }
  | _ => none }
def HeaderSumWrongFalsely : Prop := headerSumRow.holds Tryd.pinned (OpenSpec.ofChange headerSumWrong)

/-- 'onionskinlaw06.HeaderPrefix': WHATEVER THE INPUT: true; the input reads as it did. -/
def headerPrefixSpec : ChangeSpec := { name := "headerPrefix", fn := fun _ => fun
  | [d1, d2] => { results := [.lit (.bool true)], args := [d1, d2] }
  | _ => none }
def headerPrefixRow : OpenClaim := { program := "ytfogkggkjmkdiaadoor", sum := "7c65532095f9b38aa8b50785f444cf30f8d0dffb5ef52139b4e0e835926b8d38", func := "onionskin/onionskinlaw06.HeaderPrefix", spec := "headerPrefix", inPlace := ["internal/bytealg.IndexByteString", "internal/bytealg.IndexString"], unfollowed := true, recurses := true, named := ["onionskin/header.places", "unicode/utf8.first", "unicode/utf8.acceptRanges", "internal/bytealg.MaxLen"], apart := false, laid := [("unicode/utf8.acceptRanges", laid_unicode_utf8_acceptRanges), ("onionskin/header.places", laid_onionskin_header_places), ("unicode/utf8.first", laid_unicode_utf8_first)] }
def HeaderPrefixSaid : Prop := headerPrefixRow.holds Tryd.pinned (OpenSpec.ofChange headerPrefixSpec)

/-- ITS FALSE NEIGHBOUR: 'it returns false'. Refute it at one input. -/
def headerPrefixWrong : ChangeSpec := { name := "headerPrefix", fn := fun _ => fun
  | [d1, d2] => { results := [.lit (.bool false)], args := [d1, d2] }
  | _ => none }
def HeaderPrefixWrongFalsely : Prop := headerPrefixRow.holds Tryd.pinned (OpenSpec.ofChange headerPrefixWrong)

/- THE SECOND FORM. 'bulk': how many values and letters a reading holds, each counted each time it is reached (what is shared counts as often as it is met; a slice's spare places count too). A statement '..UptoSaid' is the law's where the arguments, and the package variables that the reading takes, are together of bulk at most 1048576: NARROWER than '..Said'. Prove '..Said' where nothing that the law and all that it calls make is longer than what came in: it says more and counts as full. Else prove '..UptoSaid'. A law counts once. -/
mutual
def uptoBulk {H : Type} : DataW H → Nat
  | .lit (.string bytes) => bytes.length + 1
  | .lit _ => 1
  | .nil => 1
  | .ptr d => uptoBulk d + 1
  | .slice elems spare => uptoBulkAll elems + uptoBulkAll spare + 1
  | .agg parts => uptoBulkAll parts + 1
  | .iface _ d => uptoBulk d + 1
  | .map entries => uptoBulkEntries entries + 1
  | .held _ => 1
def uptoBulkAll {H : Type} : List (DataW H) → Nat
  | [] => 0
  | d :: r => uptoBulk d + uptoBulkAll r
def uptoBulkEntries {H : Type} : List (Lit × DataW H) → Nat
  | [] => 0
  | x :: r => uptoBulkEntry x + uptoBulkEntries r
def uptoBulkEntry {H : Type} : Lit × DataW H → Nat
  | (.string bytes, d) => bytes.length + uptoBulk d + 1
  | (_, d) => uptoBulk d + 1
 end
def uptoSmall : (H : Type) → List (DataW H) → Bool := fun _ ds => decide (uptoBulkAll ds ≤ 1048576)
def OpenSpec.upto (s : _root_.Go.ChangeSpec) : _root_.Go.OpenSpec := { _root_.Go.OpenSpec.ofChange s with cond := some uptoSmall }

/-- 'onionskinlaw05.OctalReads', WHERE WHAT IT READS IS OF BULK AT MOST 1048576: true; the input reads as it did. -/
def octalReadsUptoRow : OpenClaim := { program := "ytfogkggkjmkdiaadoor", sum := "7c65532095f9b38aa8b50785f444cf30f8d0dffb5ef52139b4e0e835926b8d38", func := "onionskin/onionskinlaw05.OctalReads", spec := "octalReads", inPlace := ["internal/bytealg.IndexByteString", "internal/bytealg.IndexString"], named := ["unicode/utf8.first", "unicode/utf8.acceptRanges", "internal/bytealg.MaxLen"], apart := false, laid := [("unicode/utf8.acceptRanges", laid_unicode_utf8_acceptRanges), ("unicode/utf8.first", laid_unicode_utf8_first)], narrowed := true }
def OctalReadsUptoSaid : Prop := octalReadsUptoRow.holds Tryd.pinned (OpenSpec.upto octalReadsSpec)

/-- 'onionskinlaw05.OctalWrites', WHERE WHAT IT READS IS OF BULK AT MOST 1048576: true; the input reads as it did. -/
def octalWritesUptoRow : OpenClaim := { program := "ytfogkggkjmkdiaadoor", sum := "7c65532095f9b38aa8b50785f444cf30f8d0dffb5ef52139b4e0e835926b8d38", func := "onionskin/onionskinlaw05.OctalWrites", spec := "octalWrites", inPlace := ["internal/bytealg.IndexByteString", "internal/bytealg.IndexString"], recurses := true, named := ["unicode/utf8.first", "unicode/utf8.acceptRanges", "internal/bytealg.MaxLen"], apart := false, laid := [("unicode/utf8.acceptRanges", laid_unicode_utf8_acceptRanges), ("unicode/utf8.first", laid_unicode_utf8_first)], narrowed := true }
def OctalWritesUptoSaid : Prop := octalWritesUptoRow.holds Tryd.pinned (OpenSpec.upto octalWritesSpec)

/-- 'onionskinlaw05.OctalBack', WHERE WHAT IT READS IS OF BULK AT MOST 1048576: true; the input reads as it did. -/
def octalBackUptoRow : OpenClaim := { program := "ytfogkggkjmkdiaadoor", sum := "7c65532095f9b38aa8b50785f444cf30f8d0dffb5ef52139b4e0e835926b8d38", func := "onionskin/onionskinlaw05.OctalBack", spec := "octalBack", inPlace := ["internal/bytealg.IndexByteString", "internal/bytealg.IndexString"], named := ["unicode/utf8.first", "unicode/utf8.acceptRanges", "internal/bytealg.MaxLen"], apart := false, laid := [("unicode/utf8.acceptRanges", laid_unicode_utf8_acceptRanges), ("unicode/utf8.first", laid_unicode_utf8_first)], narrowed := true }
def OctalBackUptoSaid : Prop := octalBackUptoRow.holds Tryd.pinned (OpenSpec.upto octalBackSpec)

/-- 'onionskinlaw05.OctalBlanks', WHERE WHAT IT READS IS OF BULK AT MOST 1048576: true; the input reads as it did. -/
def octalBlanksUptoRow : OpenClaim := { program := "ytfogkggkjmkdiaadoor", sum := "7c65532095f9b38aa8b50785f444cf30f8d0dffb5ef52139b4e0e835926b8d38", func := "onionskin/onionskinlaw05.OctalBlanks", spec := "octalBlanks", inPlace := ["internal/bytealg.IndexByteString", "internal/bytealg.IndexString"], named := ["unicode/utf8.first", "unicode/utf8.acceptRanges", "internal/bytealg.MaxLen"], apart := false, laid := [("unicode/utf8.acceptRanges", laid_unicode_utf8_acceptRanges), ("unicode/utf8.first", laid_unicode_utf8_first)], narrowed := true }
def OctalBlanksUptoSaid : Prop := octalBlanksUptoRow.holds Tryd.pinned (OpenSpec.upto octalBlanksSpec)

/-- 'onionskinlaw05.OctalSum', WHERE WHAT IT READS IS OF BULK AT MOST 1048576: true; the input reads as it did. -/
def octalSumUptoRow : OpenClaim := { program := "ytfogkggkjmkdiaadoor", sum := "7c65532095f9b38aa8b50785f444cf30f8d0dffb5ef52139b4e0e835926b8d38", func := "onionskin/onionskinlaw05.OctalSum", spec := "octalSum", inPlace := ["internal/bytealg.IndexByteString", "internal/bytealg.IndexString"], named := ["unicode/utf8.first", "unicode/utf8.acceptRanges", "internal/bytealg.MaxLen"], apart := false, laid := [("unicode/utf8.acceptRanges", laid_unicode_utf8_acceptRanges), ("unicode/utf8.first", laid_unicode_utf8_first)], narrowed := true }
def OctalSumUptoSaid : Prop := octalSumUptoRow.holds Tryd.pinned (OpenSpec.upto octalSumSpec)

/-- 'onionskinlaw06.HeaderParses', WHERE WHAT IT READS IS OF BULK AT MOST 1048576: true; the input reads as it did. -/
def headerParsesUptoRow : OpenClaim := { program := "ytfogkggkjmkdiaadoor", sum := "7c65532095f9b38aa8b50785f444cf30f8d0dffb5ef52139b4e0e835926b8d38", func := "onionskin/onionskinlaw06.HeaderParses", spec := "headerParses", inPlace := ["internal/bytealg.IndexByteString", "internal/bytealg.IndexString"], unfollowed := true, recurses := true, named := ["onionskin/header.places", "unicode/utf8.first", "unicode/utf8.acceptRanges", "internal/bytealg.MaxLen"], apart := false, laid := [("unicode/utf8.acceptRanges", laid_unicode_utf8_acceptRanges), ("onionskin/header.places", laid_onionskin_header_places), ("unicode/utf8.first", laid_unicode_utf8_first)], narrowed := true }
def HeaderParsesUptoSaid : Prop := headerParsesUptoRow.holds Tryd.pinned (OpenSpec.upto headerParsesSpec)

/-- 'onionskinlaw06.HeaderPrints', WHERE WHAT IT READS IS OF BULK AT MOST 1048576: true; the input reads as it did. -/
def headerPrintsUptoRow : OpenClaim := { program := "ytfogkggkjmkdiaadoor", sum := "7c65532095f9b38aa8b50785f444cf30f8d0dffb5ef52139b4e0e835926b8d38", func := "onionskin/onionskinlaw06.HeaderPrints", spec := "headerPrints", inPlace := ["internal/bytealg.IndexByteString", "internal/bytealg.IndexString"], unfollowed := true, recurses := true, named := ["onionskin/header.places", "unicode/utf8.first", "unicode/utf8.acceptRanges", "internal/bytealg.MaxLen"], apart := false, laid := [("unicode/utf8.acceptRanges", laid_unicode_utf8_acceptRanges), ("onionskin/header.places", laid_onionskin_header_places), ("unicode/utf8.first", laid_unicode_utf8_first)], narrowed := true }
def HeaderPrintsUptoSaid : Prop := headerPrintsUptoRow.holds Tryd.pinned (OpenSpec.upto headerPrintsSpec)

/-- 'onionskinlaw06.HeaderBack', WHERE WHAT IT READS IS OF BULK AT MOST 1048576: true; the input reads as it did. -/
def headerBackUptoRow : OpenClaim := { program := "ytfogkggkjmkdiaadoor", sum := "7c65532095f9b38aa8b50785f444cf30f8d0dffb5ef52139b4e0e835926b8d38", func := "onionskin/onionskinlaw06.HeaderBack", spec := "headerBack", inPlace := ["internal/bytealg.IndexByteString", "internal/bytealg.IndexString"], unfollowed := true, recurses := true, named := ["onionskin/header.places", "unicode/utf8.first", "unicode/utf8.acceptRanges", "internal/bytealg.MaxLen"], apart := false, laid := [("unicode/utf8.acceptRanges", laid_unicode_utf8_acceptRanges), ("onionskin/header.places", laid_onionskin_header_places), ("unicode/utf8.first", laid_unicode_utf8_first)], narrowed := true }
def HeaderBackUptoSaid : Prop := headerBackUptoRow.holds Tryd.pinned (OpenSpec.upto headerBackSpec)

/-- 'onionskinlaw06.HeaderSum', WHERE WHAT IT READS IS OF BULK AT MOST 1048576: true; the input reads as it did. -/
def headerSumUptoRow : OpenClaim := { program := "ytfogkggkjmkdiaadoor", sum := "7c65532095f9b38aa8b50785f444cf30f8d0dffb5ef52139b4e0e835926b8d38", func := "onionskin/onionskinlaw06.HeaderSum", spec := "headerSum", inPlace := ["internal/bytealg.IndexByteString", "internal/bytealg.IndexString"], unfollowed := true, recurses := true, named := ["onionskin/header.places", "unicode/utf8.first", "unicode/utf8.acceptRanges", "internal/bytealg.MaxLen"], apart := false, laid := [("unicode/utf8.acceptRanges", laid_unicode_utf8_acceptRanges), ("onionskin/header.places", laid_onionskin_header_places), ("unicode/utf8.first", laid_unicode_utf8_first)], narrowed := true }
def HeaderSumUptoSaid : Prop := headerSumUptoRow.holds Tryd.pinned (OpenSpec.upto headerSumSpec)

/-- 'onionskinlaw06.HeaderPrefix', WHERE WHAT IT READS IS OF BULK AT MOST 1048576: true; the input reads as it did. -/
def headerPrefixUptoRow : OpenClaim := { program := "ytfogkggkjmkdiaadoor", sum := "7c65532095f9b38aa8b50785f444cf30f8d0dffb5ef52139b4e0e835926b8d38", func := "onionskin/onionskinlaw06.HeaderPrefix", spec := "headerPrefix", inPlace := ["internal/bytealg.IndexByteString", "internal/bytealg.IndexString"], unfollowed := true, recurses := true, named := ["onionskin/header.places", "unicode/utf8.first", "unicode/utf8.acceptRanges", "internal/bytealg.MaxLen"], apart := false, laid := [("unicode/utf8.acceptRanges", laid_unicode_utf8_acceptRanges), ("onionskin/header.places", laid_onionskin_header_places), ("unicode/utf8.first", laid_unicode_utf8_first)], narrowed := true }
def HeaderPrefixUptoSaid : Prop := headerPrefixUptoRow.holds Tryd.pinned (OpenSpec.upto headerPrefixSpec)

end Rows
end Go.Proofs.YtfogkggkjmkdiaaDoor

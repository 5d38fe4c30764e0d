/-
  DERIVED. GIVEN WITH THE SEED: THE CARDS: each row of YtfogkggkjmkdiaaDoorRows.lean that lists a variable, with what it lists TIED to the program's text (the seventh form; the later family's looks); each row that meets fmt, with fmt's text TOLD by the authors' own Lean function (tested against real Go, not proved from fmt's source: count such statements apart). THE CARD IS WHAT COUNTS. Prove the row's statement (the work); the ties are given (YtfogkggkjmkdiaaDoorTie.lean); close each card by the builder's one call (the guide's Derived/Test/ToyasCard.lean, 'card_holds'). Laid BY PROGRAM, IN A SANDBOX (cutbox-door.mjs). By AI agents, Wed Nov 11 2026. No macro, syntax, notation, axiom, sorry.
-/
import Derived.Test.YtfogkggkjmkdiaaDoorRows
import GoSem.ClaimSeven
namespace Go.Proofs.YtfogkggkjmkdiaaDoor
namespace Rows

/-- THE TIED CARD OF 'onionskinlaw05.OctalReads'. -/
def octalReadsCard : Claim7 := { stood := { row := octalReadsRow, standIns := [], harness := (true, "bcfc387c8ce74af20902e6ae951e17b7a753cda9ead938dff39545cb2f153bc1"), looks := false }, kinds := [], alts := [], laidByText := true, laidKinds := [.data, .pinned], laidTests := true, laidLooks := .later }
def OctalReadsCardSaid : Prop := Claim7.holds Tryd.pinned (.plain (OpenSpec.ofChange octalReadsSpec)) octalReadsCard

/-- THE TIED CARD OF 'onionskinlaw05.OctalWrites'. -/
def octalWritesCard : Claim7 := { stood := { row := octalWritesRow, standIns := [], harness := (true, "bcfc387c8ce74af20902e6ae951e17b7a753cda9ead938dff39545cb2f153bc1"), looks := false }, kinds := [], alts := [], laidByText := true, laidKinds := [.data, .pinned], laidTests := true, laidLooks := .later }
def OctalWritesCardSaid : Prop := Claim7.holds Tryd.pinned (.plain (OpenSpec.ofChange octalWritesSpec)) octalWritesCard

/-- THE TIED CARD OF 'onionskinlaw05.OctalBack'. -/
def octalBackCard : Claim7 := { stood := { row := octalBackRow, standIns := [], harness := (true, "bcfc387c8ce74af20902e6ae951e17b7a753cda9ead938dff39545cb2f153bc1"), looks := false }, kinds := [], alts := [], laidByText := true, laidKinds := [.data, .pinned], laidTests := true, laidLooks := .later }
def OctalBackCardSaid : Prop := Claim7.holds Tryd.pinned (.plain (OpenSpec.ofChange octalBackSpec)) octalBackCard

/-- THE TIED CARD OF 'onionskinlaw05.OctalBlanks'. -/
def octalBlanksCard : Claim7 := { stood := { row := octalBlanksRow, standIns := [], harness := (true, "bcfc387c8ce74af20902e6ae951e17b7a753cda9ead938dff39545cb2f153bc1"), looks := false }, kinds := [], alts := [], laidByText := true, laidKinds := [.data, .pinned], laidTests := true, laidLooks := .later }
def OctalBlanksCardSaid : Prop := Claim7.holds Tryd.pinned (.plain (OpenSpec.ofChange octalBlanksSpec)) octalBlanksCard

/-- THE TIED CARD OF 'onionskinlaw05.OctalSum'. -/
def octalSumCard : Claim7 := { stood := { row := octalSumRow, standIns := [], harness := (true, "bcfc387c8ce74af20902e6ae951e17b7a753cda9ead938dff39545cb2f153bc1"), looks := false }, kinds := [], alts := [], laidByText := true, laidKinds := [.data, .pinned], laidTests := true, laidLooks := .later }
def OctalSumCardSaid : Prop := Claim7.holds Tryd.pinned (.plain (OpenSpec.ofChange octalSumSpec)) octalSumCard

/-- THE TIED CARD OF 'onionskinlaw06.HeaderParses'. -/
def headerParsesCard : Claim7 := { stood := { row := headerParsesRow, standIns := [], harness := (true, "bcfc387c8ce74af20902e6ae951e17b7a753cda9ead938dff39545cb2f153bc1"), looks := false }, kinds := [], alts := [], laidByText := true, laidKinds := [.data, .data, .pinned], laidTests := true, laidLooks := .later }
def HeaderParsesCardSaid : Prop := Claim7.holds Tryd.pinned (.plain (OpenSpec.ofChange headerParsesSpec)) headerParsesCard

/-- THE TIED CARD OF 'onionskinlaw06.HeaderPrints'. -/
def headerPrintsCard : Claim7 := { stood := { row := headerPrintsRow, standIns := [], harness := (true, "bcfc387c8ce74af20902e6ae951e17b7a753cda9ead938dff39545cb2f153bc1"), looks := false }, kinds := [], alts := [], laidByText := true, laidKinds := [.data, .data, .pinned], laidTests := true, laidLooks := .later }
def HeaderPrintsCardSaid : Prop := Claim7.holds Tryd.pinned (.plain (OpenSpec.ofChange headerPrintsSpec)) headerPrintsCard

/-- THE TIED CARD OF 'onionskinlaw06.HeaderBack'. -/
def headerBackCard : Claim7 := { stood := { row := headerBackRow, standIns := [], harness := (true, "bcfc387c8ce74af20902e6ae951e17b7a753cda9ead938dff39545cb2f153bc1"), looks := false }, kinds := [], alts := [], laidByText := true, laidKinds := [.data, .data, .pinned], laidTests := true, laidLooks := .later }
def HeaderBackCardSaid : Prop := Claim7.holds Tryd.pinned (.plain (OpenSpec.ofChange headerBackSpec)) headerBackCard

/-- THE TIED CARD OF 'onionskinlaw06.HeaderSum'. -/
def headerSumCard : Claim7 := { stood := { row := headerSumRow, standIns := [], harness := (true, "bcfc387c8ce74af20902e6ae951e17b7a753cda9ead938dff39545cb2f153bc1"), looks := false }, kinds := [], alts := [], laidByText := true, laidKinds := [.data, .data, .pinned], laidTests := true, laidLooks := .later }
def HeaderSumCardSaid : Prop := Claim7.holds Tryd.pinned (.plain (OpenSpec.ofChange headerSumSpec)) headerSumCard

/-- THE TIED CARD OF 'onionskinlaw06.HeaderPrefix'. -/
def headerPrefixCard : Claim7 := { stood := { row := headerPrefixRow, standIns := [], harness := (true, "bcfc387c8ce74af20902e6ae951e17b7a753cda9ead938dff39545cb2f153bc1"), looks := false }, kinds := [], alts := [], laidByText := true, laidKinds := [.data, .data, .pinned], laidTests := true, laidLooks := .later }
def HeaderPrefixCardSaid : Prop := Claim7.holds Tryd.pinned (.plain (OpenSpec.ofChange headerPrefixSpec)) headerPrefixCard

/-- THE SECOND FORM's CARD OF 'onionskinlaw05.OctalReads'. -/
def octalReadsUptoCard : Claim7 := { stood := { row := octalReadsUptoRow, standIns := [], harness := (true, "bcfc387c8ce74af20902e6ae951e17b7a753cda9ead938dff39545cb2f153bc1"), looks := false }, kinds := [], alts := [], laidByText := true, laidKinds := [.data, .pinned], laidTests := true, laidLooks := .later }
def OctalReadsUptoCardSaid : Prop := Claim7.holds Tryd.pinned (.plain (OpenSpec.upto octalReadsSpec)) octalReadsUptoCard

/-- THE SECOND FORM's CARD OF 'onionskinlaw05.OctalWrites'. -/
def octalWritesUptoCard : Claim7 := { stood := { row := octalWritesUptoRow, standIns := [], harness := (true, "bcfc387c8ce74af20902e6ae951e17b7a753cda9ead938dff39545cb2f153bc1"), looks := false }, kinds := [], alts := [], laidByText := true, laidKinds := [.data, .pinned], laidTests := true, laidLooks := .later }
def OctalWritesUptoCardSaid : Prop := Claim7.holds Tryd.pinned (.plain (OpenSpec.upto octalWritesSpec)) octalWritesUptoCard

/-- THE SECOND FORM's CARD OF 'onionskinlaw05.OctalBack'. -/
def octalBackUptoCard : Claim7 := { stood := { row := octalBackUptoRow, standIns := [], harness := (true, "bcfc387c8ce74af20902e6ae951e17b7a753cda9ead938dff39545cb2f153bc1"), looks := false }, kinds := [], alts := [], laidByText := true, laidKinds := [.data, .pinned], laidTests := true, laidLooks := .later }
def OctalBackUptoCardSaid : Prop := Claim7.holds Tryd.pinned (.plain (OpenSpec.upto octalBackSpec)) octalBackUptoCard

/-- THE SECOND FORM's CARD OF 'onionskinlaw05.OctalBlanks'. -/
def octalBlanksUptoCard : Claim7 := { stood := { row := octalBlanksUptoRow, standIns := [], harness := (true, "bcfc387c8ce74af20902e6ae951e17b7a753cda9ead938dff39545cb2f153bc1"), looks := false }, kinds := [], alts := [], laidByText := true, laidKinds := [.data, .pinned], laidTests := true, laidLooks := .later }
def OctalBlanksUptoCardSaid : Prop := Claim7.holds Tryd.pinned (.plain (OpenSpec.upto octalBlanksSpec)) octalBlanksUptoCard

/-- THE SECOND FORM's CARD OF 'onionskinlaw05.OctalSum'. -/
def octalSumUptoCard : Claim7 := { stood := { row := octalSumUptoRow, standIns := [], harness := (true, "bcfc387c8ce74af20902e6ae951e17b7a753cda9ead938dff39545cb2f153bc1"), looks := false }, kinds := [], alts := [], laidByText := true, laidKinds := [.data, .pinned], laidTests := true, laidLooks := .later }
def OctalSumUptoCardSaid : Prop := Claim7.holds Tryd.pinned (.plain (OpenSpec.upto octalSumSpec)) octalSumUptoCard

/-- THE SECOND FORM's CARD OF 'onionskinlaw06.HeaderParses'. -/
def headerParsesUptoCard : Claim7 := { stood := { row := headerParsesUptoRow, standIns := [], harness := (true, "bcfc387c8ce74af20902e6ae951e17b7a753cda9ead938dff39545cb2f153bc1"), looks := false }, kinds := [], alts := [], laidByText := true, laidKinds := [.data, .data, .pinned], laidTests := true, laidLooks := .later }
def HeaderParsesUptoCardSaid : Prop := Claim7.holds Tryd.pinned (.plain (OpenSpec.upto headerParsesSpec)) headerParsesUptoCard

/-- THE SECOND FORM's CARD OF 'onionskinlaw06.HeaderPrints'. -/
def headerPrintsUptoCard : Claim7 := { stood := { row := headerPrintsUptoRow, standIns := [], harness := (true, "bcfc387c8ce74af20902e6ae951e17b7a753cda9ead938dff39545cb2f153bc1"), looks := false }, kinds := [], alts := [], laidByText := true, laidKinds := [.data, .data, .pinned], laidTests := true, laidLooks := .later }
def HeaderPrintsUptoCardSaid : Prop := Claim7.holds Tryd.pinned (.plain (OpenSpec.upto headerPrintsSpec)) headerPrintsUptoCard

/-- THE SECOND FORM's CARD OF 'onionskinlaw06.HeaderBack'. -/
def headerBackUptoCard : Claim7 := { stood := { row := headerBackUptoRow, standIns := [], harness := (true, "bcfc387c8ce74af20902e6ae951e17b7a753cda9ead938dff39545cb2f153bc1"), looks := false }, kinds := [], alts := [], laidByText := true, laidKinds := [.data, .data, .pinned], laidTests := true, laidLooks := .later }
def HeaderBackUptoCardSaid : Prop := Claim7.holds Tryd.pinned (.plain (OpenSpec.upto headerBackSpec)) headerBackUptoCard

/-- THE SECOND FORM's CARD OF 'onionskinlaw06.HeaderSum'. -/
def headerSumUptoCard : Claim7 := { stood := { row := headerSumUptoRow, standIns := [], harness := (true, "bcfc387c8ce74af20902e6ae951e17b7a753cda9ead938dff39545cb2f153bc1"), looks := false }, kinds := [], alts := [], laidByText := true, laidKinds := [.data, .data, .pinned], laidTests := true, laidLooks := .later }
def HeaderSumUptoCardSaid : Prop := Claim7.holds Tryd.pinned (.plain (OpenSpec.upto headerSumSpec)) headerSumUptoCard

/-- THE SECOND FORM's CARD OF 'onionskinlaw06.HeaderPrefix'. -/
def headerPrefixUptoCard : Claim7 := { stood := { row := headerPrefixUptoRow, standIns := [], harness := (true, "bcfc387c8ce74af20902e6ae951e17b7a753cda9ead938dff39545cb2f153bc1"), looks := false }, kinds := [], alts := [], laidByText := true, laidKinds := [.data, .data, .pinned], laidTests := true, laidLooks := .later }
def HeaderPrefixUptoCardSaid : Prop := Claim7.holds Tryd.pinned (.plain (OpenSpec.upto headerPrefixSpec)) headerPrefixUptoCard
end Rows
end Go.Proofs.YtfogkggkjmkdiaaDoor
